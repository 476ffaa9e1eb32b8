/- Regions in their order, a step at a time, where a guard is known only as a name; kingpostref10.segments, where the ways turn. -/
import Derived.Test.YtlaccnphhomdgaaGreatDoorQ24
import Derived.Test.YtlaccnphhomdgaaGreatDoorQ14
import Derived.Test.YtlaccnphhomdgaaGreatDoorQ13
import Derived.Test.YtlaccnphhomdgaaGreatDoorQ11
import Derived.Test.YtlaccnphhomdgaaGreatDoorQ16
set_option maxRecDepth 100000
set_option maxHeartbeats 8000000
open Go renaming World → zA, Calls → zC
open Go.RowKit renaming Below → zB
open Go.Lib renaming decDigits → zD
open Go.Proofs.Tryz renaming prog → zF
open Go.World renaming alloc_heap_new → zG, size_alloc → zH
open Go.Joins renaming cell_of_block → zJ
open Go.RowKit.Below renaming refl → zM
open Nat renaming le_refl → zN
namespace Go.Proofs.YtlaccnphhomdgaaGreatDoor
section
open Go.RowKit Go.Shelf Lib Str Limb Geo
attribute [local go_sem] Oper.semAt_some
section
variable {P:Program} {ops:Array Oper} {Q:Exit->Act->zA->Prop} {a:Act} {rest:List Oper} {o:Oper} {C:zA->Prop}
theorem za4 (v:Value) (hw:Region.wanted o (yielded ops a.tmps)=true) (hy:∀w,C w->(execOp a.eval o).run P w=.ok (.value v) w)
 (h:∀w,C w->wpList P ops Q rest (a.put o.dst v) w):∀w,C w->wpList P ops Q (o::rest) a w:=λw hC=>by
 refine wpList_step λK hK=>?_
 rw[if_pos hw]
 exact zjt (C:=C) (v:=v) (λw' h'=>hK _ _ (h w' h')) (by rw[hy w hC];exact⟨rfl,hC⟩)
theorem zx2 (v:Value) (hw:Region.wanted o (yielded ops a.tmps)=true) (hy:∀w,C w->zfx P C v ((execOp a.eval o).run P w))
 (h:∀w,C w->wpList P ops Q rest (a.put o.dst v) w):∀w,C w->wpList P ops Q (o::rest) a w:=λw hC=>by
 refine wpList_step λK hK=>?_
 rw[if_pos hw]
 exact zjt (C:=C) (v:=v) (λw' h'=>hK _ _ (h w' h')) (hy w hC)
theorem zap (g:Bool) (v:Value) (hw:Region.wanted o (yielded ops a.tmps)=g) (hy:g=true->∀w,C w->zfx P C v ((execOp a.eval o).run P w))
 (h:∀w,C w->wpList P ops Q rest (a.put o.dst (bif g then v else undef)) w):∀w,C w->wpList P ops Q (o::rest) a w:=λw hC=>by
 refine wpList_step λK hK=>?_
 cases g with
 |true=>rw[if_pos hw];exact zjt (C:=C) (v:=v) (λw' h'=>hK _ _ (h w' h')) (hy rfl w hC)
 |false=>rw[if_neg (by rw[hw];simp)];exact hK _ _ (h w hC)
theorem zgn {id:Nat} {l:List Oper} {w:zA} (C:zA->Prop) (hC:C w) (h:∀w,C w->wpList P l.toArray Q l a w):(Code.region id l.toArray false).wp P Q a w:=wp_region_lit (h w hC)
theorem zah {r:Result Next} {v:Value} {w:zA} (h:r=.ok (.value v) w) (hC:C w):zfx P C v r:=by rw[h];exact⟨rfl,hC⟩
end
theorem FourS.cells' {w:zA} {x1 y1 x2 y2 x3 y3 x4 y4:List UInt8} {W:zA} (h:FourS w x1 y1 x2 y2 x3 y3 x4 y4 W):
 W.cell? ⟨w.heap.size,0,none⟩=some (St x1)/\W.cell? ⟨w.heap.size,1,none⟩=some (St y1)/\W.cell? ⟨w.heap.size+1,0,none⟩=some (St x2)/\W.cell? ⟨w.heap.size+1,1,none⟩=some (St y2)/\
 W.cell? ⟨w.heap.size+1+1,0,none⟩=some (St x3)/\W.cell? ⟨w.heap.size+1+1,1,none⟩=some (St y3)/\W.cell? ⟨w.heap.size+1+1+1,0,none⟩=some (St x4)/\W.cell? ⟨w.heap.size+1+1+1,1,none⟩=some (St y4):=h.cells
theorem zvn (x1 y1 x2 y2 x3 y3 x4 y4:List UInt8) (p q r s m n:Int) (bp bq br bs np nq c1 c2 o1 o2 o3 o4:Bool)
 (hp:Hid ((p==0)=bp)) (hq:Hid ((q==0)=bq)) (hr:Hid ((r==0)=br)) (hs:Hid ((s==0)=bs)) (hnp:Hid ((p !=0)=np)) (hnq:Hid ((q !=0)=nq))
 (hm:Hid (IntKind.i64.wrap (p*q)=m)) (hn:Hid (IntKind.i64.wrap (r*s)=n)) (hc1:Hid (decide (m<=0)=c1)) (hc2:Hid (decide (n<=0)=c2)) (hno:(((bp&&bq)&&br)&&bs)=false)
 (T1:Hid (∀W:zA,Wd W->zC zF 78 #[.agg #[St x1,St y1],.agg #[St x2,St y2],.agg #[St x3,St y3]] W λe w'=>e=.returned (.int .i64 p)/\zB W.heap.size W w'))
 (T2:Hid (∀W:zA,Wd W->zC zF 78 #[.agg #[St x1,St y1],.agg #[St x2,St y2],.agg #[St x4,St y4]] W λe w'=>e=.returned (.int .i64 q)/\zB W.heap.size W w'))
 (T3:Hid (∀W:zA,Wd W->zC zF 78 #[.agg #[St x3,St y3],.agg #[St x4,St y4],.agg #[St x1,St y1]] W λe w'=>e=.returned (.int .i64 r)/\zB W.heap.size W w'))
 (T4:Hid (∀W:zA,Wd W->zC zF 78 #[.agg #[St x3,St y3],.agg #[St x4,St y4],.agg #[St x2,St y2]] W λe w'=>e=.returned (.int .i64 s)/\zB W.heap.size W w'))
 (O1:Hid (∀W:zA,Wd W->zC zF 79 #[.agg #[St x1,St y1],.agg #[St x2,St y2],.agg #[St x3,St y3]] W λe w'=>e=.returned (.bool o1)/\zB W.heap.size W w'))
 (O2:Hid (∀W:zA,Wd W->zC zF 79 #[.agg #[St x1,St y1],.agg #[St x2,St y2],.agg #[St x4,St y4]] W λe w'=>e=.returned (.bool o2)/\zB W.heap.size W w'))
 (O3:Hid (∀W:zA,Wd W->zC zF 79 #[.agg #[St x3,St y3],.agg #[St x4,St y4],.agg #[St x1,St y1]] W λe w'=>e=.returned (.bool o3)/\zB W.heap.size W w'))
 (O4:Hid (∀W:zA,Wd W->zC zF 79 #[.agg #[St x3,St y3],.agg #[St x4,St y4],.agg #[St x2,St y2]] W λe w'=>e=.returned (.bool o4)/\zB W.heap.size W w'))
 (w:zA) (HW:Hid (Wd w)):
 zC zF 40 #[.agg #[St x1,St y1],.agg #[St x2,St y2],.agg #[St x3,St y3],.agg #[St x4,St y4]] w λe w'=>e=.returned (.int .i64 (if(((c1&&c2)&&(np||o1))&&(nq||o2))=true then 1 else if((((bp&&o1)||(bq&&o2))||(br&&o3))||(bs&&o4))=true then 1 else 0))/\zB w.heap.size w w':=by
 have HI:=hid (FourS.start w x1 y1 x2 y2 x3 y3 x4 y4)
 obtain⟨k1,hk1⟩:∃b,(bp&&bq)=b:=⟨_,rfl⟩
 obtain⟨k2,hk2⟩:∃b,(k1&&br)=b:=⟨_,rfl⟩
 have hk3:(k2&&bs)=false:=by rw[<-hk2,<-hk1];exact hno
 obtain⟨d1,hd1⟩:∃b,(c1&&c2)=b:=⟨_,rfl⟩
 obtain⟨e1,he1⟩:∃b,(np||o1)=b:=⟨_,rfl⟩
 obtain⟨d2,hd2⟩:∃b,(d1&&e1)=b:=⟨_,rfl⟩
 obtain⟨e2,he2⟩:∃b,(nq||o2)=b:=⟨_,rfl⟩
 obtain⟨d3,hd3⟩:∃b,(d2&&e2)=b:=⟨_,rfl⟩
 obtain⟨f1,hf1⟩:∃b,(bp&&o1)=b:=⟨_,rfl⟩
 obtain⟨f2,hf2⟩:∃b,(bq&&o2)=b:=⟨_,rfl⟩
 obtain⟨g2,hg2⟩:∃b,(f1||f2)=b:=⟨_,rfl⟩
 obtain⟨f3,hf3⟩:∃b,(br&&o3)=b:=⟨_,rfl⟩
 obtain⟨g3,hg3⟩:∃b,(g2||f3)=b:=⟨_,rfl⟩
 obtain⟨f4,hf4⟩:∃b,(bs&&o4)=b:=⟨_,rfl⟩
 obtain⟨g4,hg4⟩:∃b,(g3||f4)=b:=⟨_,rfl⟩
 rw[hd1,he1,hd2,he2,hd3,hf1,hf2,hg2,hf3,hg3,hf4,hg4]
 have Hk1:=hid hk1;clear hk1
 have Hk2:=hid hk2;clear hk2
 have Hk3:=hid hk3;clear hk3
 have Hd1:=hid hd1;clear hd1
 have Hd2:=hid hd2;clear hd2
 have Hd3:=hid hd3;clear hd3
 have He1:=hid he1;clear he1
 have He2:=hid he2;clear he2
 have Hf1:=hid hf1;clear hf1
 have Hf2:=hid hf2;clear hf2
 have Hf3:=hid hf3;clear hf3
 have Hf4:=hid hf4;clear hf4
 have Hg2:=hid hg2;clear hg2
 have Hg3:=hid hg3;clear hg3
 have Hg4:=hid hg4;clear hg4
 clear hno
 go_enter Tryz.func40,Tryz.ntmps40
 go_wp2_with fail
 refine zbl (λ_ W=>FourS w x1 y1 x2 y2 x3 y3 x4 y4 W) (by kernel_rfl) (by kernel_rfl) (HI.out.next (zM _ _).drew) ?_
 refine zab (v:=.agg #[St x1,St y1]) (by rfl) (λf W' h=>h) (λf W' hf h=>by obtain⟨i1,i2,i3,i4,i5,i6,i7,i8⟩:=h.cells';go_simp) ?_
 try simp only[zzQ]
 refine zab (v:=.agg #[St x2,St y2]) (by rfl) (λf W' h=>h) (λf W' hf h=>by obtain⟨i1,i2,i3,i4,i5,i6,i7,i8⟩:=h.cells';go_simp) ?_
 try simp only[zzQ]
 refine zab (v:=.agg #[St x3,St y3]) (by rfl) (λf W' h=>h) (λf W' hf h=>by obtain⟨i1,i2,i3,i4,i5,i6,i7,i8⟩:=h.cells';go_simp) ?_
 try simp only[zzQ]
 refine zar (.int .i64 p) (by rfl) (λf W' hf h C' hC'=>by
  go_simp
  refine(T1.out _ (HW.out.below h.bel)).mono ?_
  rintro e w' ⟨rfl,hb⟩
  exact⟨rfl,hC' _ (h.next hb)⟩) ?_
 try simp only[zzQ]
 refine zab (v:=.agg #[St x1,St y1]) (by rfl) (λf W' h=>h) (λf W' hf h=>by obtain⟨i1,i2,i3,i4,i5,i6,i7,i8⟩:=h.cells';go_simp) ?_
 try simp only[zzQ]
 refine zab (v:=.agg #[St x2,St y2]) (by rfl) (λf W' h=>h) (λf W' hf h=>by obtain⟨i1,i2,i3,i4,i5,i6,i7,i8⟩:=h.cells';go_simp) ?_
 try simp only[zzQ]
 refine zab (v:=.agg #[St x4,St y4]) (by rfl) (λf W' h=>h) (λf W' hf h=>by obtain⟨i1,i2,i3,i4,i5,i6,i7,i8⟩:=h.cells';go_simp) ?_
 try simp only[zzQ]
 refine zar (.int .i64 q) (by rfl) (λf W' hf h C' hC'=>by
  go_simp
  refine(T2.out _ (HW.out.below h.bel)).mono ?_
  rintro e w' ⟨rfl,hb⟩
  exact⟨rfl,hC' _ (h.next hb)⟩) ?_
 try simp only[zzQ]
 refine zab (v:=.agg #[St x3,St y3]) (by rfl) (λf W' h=>h) (λf W' hf h=>by obtain⟨i1,i2,i3,i4,i5,i6,i7,i8⟩:=h.cells';go_simp) ?_
 try simp only[zzQ]
 refine zab (v:=.agg #[St x4,St y4]) (by rfl) (λf W' h=>h) (λf W' hf h=>by obtain⟨i1,i2,i3,i4,i5,i6,i7,i8⟩:=h.cells';go_simp) ?_
 try simp only[zzQ]
 refine zab (v:=.agg #[St x1,St y1]) (by rfl) (λf W' h=>h) (λf W' hf h=>by obtain⟨i1,i2,i3,i4,i5,i6,i7,i8⟩:=h.cells';go_simp) ?_
 try simp only[zzQ]
 refine zar (.int .i64 r) (by rfl) (λf W' hf h C' hC'=>by
  go_simp
  refine(T3.out _ (HW.out.below h.bel)).mono ?_
  rintro e w' ⟨rfl,hb⟩
  exact⟨rfl,hC' _ (h.next hb)⟩) ?_
 try simp only[zzQ]
 refine zab (v:=.agg #[St x3,St y3]) (by rfl) (λf W' h=>h) (λf W' hf h=>by obtain⟨i1,i2,i3,i4,i5,i6,i7,i8⟩:=h.cells';go_simp) ?_
 try simp only[zzQ]
 refine zab (v:=.agg #[St x4,St y4]) (by rfl) (λf W' h=>h) (λf W' hf h=>by obtain⟨i1,i2,i3,i4,i5,i6,i7,i8⟩:=h.cells';go_simp) ?_
 try simp only[zzQ]
 refine zab (v:=.agg #[St x2,St y2]) (by rfl) (λf W' h=>h) (λf W' hf h=>by obtain⟨i1,i2,i3,i4,i5,i6,i7,i8⟩:=h.cells';go_simp) ?_
 try simp only[zzQ]
 refine zar (.int .i64 s) (by rfl) (λf W' hf h C' hC'=>by
  go_simp
  refine(T4.out _ (HW.out.below h.bel)).mono ?_
  rintro e w' ⟨rfl,hb⟩
  exact⟨rfl,hC' _ (h.next hb)⟩) ?_
 try simp only[zzQ]
 refine zab (v:=.int .i64 p) (by rfl) (λf W' h=>h) (λf W' hf h=>by go_simp) ?_
 try simp only[zzQ]
 refine zab (v:=.int .i64 q) (by rfl) (λf W' h=>h) (λf W' hf h=>by go_simp) ?_
 try simp only[zzQ]
 refine zab (v:=.int .i64 r) (by rfl) (λf W' h=>h) (λf W' hf h=>by go_simp) ?_
 try simp only[zzQ]
 refine zab (v:=.int .i64 s) (by rfl) (λf W' h=>h) (λf W' hf h=>by go_simp) ?_
 try simp only[zzQ]
 refine zck λf W1 hf h1=>?_
 have HI1:=hid h1
 clear hf h1 HI
 rename_i K hK
 refine hK _ _ ?_
 refine wp_seq (wp_seq ?_)
 refine zgn (λW=>FourS w x1 y1 x2 y2 x3 y3 x4 y4 W) HI1.out ?_
 refine za4 (.agg #[St x1,St y1]) (by rfl) (λW' h=>by(obtain⟨i1,i2,i3,i4,i5,i6,i7,i8⟩:=h.cells';go_simp)) ?_
 try simp only[zzQ]
 refine za4 (.agg #[St x2,St y2]) (by rfl) (λW' h=>by(obtain⟨i1,i2,i3,i4,i5,i6,i7,i8⟩:=h.cells';go_simp)) ?_
 try simp only[zzQ]
 refine za4 (.agg #[St x3,St y3]) (by rfl) (λW' h=>by(obtain⟨i1,i2,i3,i4,i5,i6,i7,i8⟩:=h.cells';go_simp)) ?_
 try simp only[zzQ]
 refine zx2 (.int .i64 p) (by rfl) (λW' h=>by
  go_simp
  refine(T1.out _ (HW.out.below h.bel)).mono ?_
  rintro e w' ⟨rfl,hb⟩
  exact⟨rfl,h.next hb⟩) ?_
 try simp only[zzQ]
 refine za4 (.bool bp) (by rfl) (λW' h=>by(have h0:=hp.out;go_simp)) ?_
 try simp only[zzQ]
 refine za4 (.bool bp) (by rfl) (λW' h=>by go_simp) ?_
 try simp only[zzQ]
 refine zap (bp) (.agg #[St x1,St y1]) (by cases bp<;>rfl) (λhg W' h=>by
  obtain⟨rfl⟩:bp=true:=by revert hg;cases bp<;>simp
  refine zah ?_ h
  (obtain⟨i1,i2,i3,i4,i5,i6,i7,i8⟩:=h.cells';go_simp)) ?_
 try simp only[zzQ]
 refine zap (bp) (.agg #[St x2,St y2]) (by cases bp<;>rfl) (λhg W' h=>by
  obtain⟨rfl⟩:bp=true:=by revert hg;cases bp<;>simp
  refine zah ?_ h
  (obtain⟨i1,i2,i3,i4,i5,i6,i7,i8⟩:=h.cells';go_simp)) ?_
 try simp only[zzQ]
 refine zap (bp) (.agg #[St x4,St y4]) (by cases bp<;>rfl) (λhg W' h=>by
  obtain⟨rfl⟩:bp=true:=by revert hg;cases bp<;>simp
  refine zah ?_ h
  (obtain⟨i1,i2,i3,i4,i5,i6,i7,i8⟩:=h.cells';go_simp)) ?_
 try simp only[zzQ]
 refine zap (bp) (.int .i64 q) (by cases bp<;>rfl) (λhg W' h=>by
  obtain⟨rfl⟩:bp=true:=by revert hg;cases bp<;>simp
  go_simp
  refine(T2.out _ (HW.out.below h.bel)).mono ?_
  rintro e w' ⟨rfl,hb⟩
  exact⟨rfl,h.next hb⟩) ?_
 try simp only[zzQ]
 refine zap (bp) (.bool bq) (by cases bp<;>rfl) (λhg W' h=>by
  obtain⟨rfl⟩:bp=true:=by revert hg;cases bp<;>simp
  refine zah ?_ h
  (have h0:=hq.out;go_simp)) ?_
 try simp only[zzQ]
 refine za4 (.bool k1) (by rfl) (λW' h=>by cases bp<;>(have h0:=Hk1.out;simp only[Bool.true_and,Bool.false_and] at h0;(try subst h0);go_simp)) ?_
 try simp only[zzQ]
 refine za4 (.bool k1) (by rfl) (λW' h=>by go_simp) ?_
 try simp only[zzQ]
 refine zap (k1) (.agg #[St x3,St y3]) (by cases k1<;>rfl) (λhg W' h=>by
  obtain⟨rfl⟩:k1=true:=by revert hg;cases k1<;>simp
  refine zah ?_ h
  (obtain⟨i1,i2,i3,i4,i5,i6,i7,i8⟩:=h.cells';go_simp)) ?_
 try simp only[zzQ]
 refine zap (k1) (.agg #[St x4,St y4]) (by cases k1<;>rfl) (λhg W' h=>by
  obtain⟨rfl⟩:k1=true:=by revert hg;cases k1<;>simp
  refine zah ?_ h
  (obtain⟨i1,i2,i3,i4,i5,i6,i7,i8⟩:=h.cells';go_simp)) ?_
 try simp only[zzQ]
 refine zap (k1) (.agg #[St x1,St y1]) (by cases k1<;>rfl) (λhg W' h=>by
  obtain⟨rfl⟩:k1=true:=by revert hg;cases k1<;>simp
  refine zah ?_ h
  (obtain⟨i1,i2,i3,i4,i5,i6,i7,i8⟩:=h.cells';go_simp)) ?_
 try simp only[zzQ]
 refine zap (k1) (.int .i64 r) (by cases k1<;>rfl) (λhg W' h=>by
  obtain⟨rfl⟩:k1=true:=by revert hg;cases k1<;>simp
  go_simp
  refine(T3.out _ (HW.out.below h.bel)).mono ?_
  rintro e w' ⟨rfl,hb⟩
  exact⟨rfl,h.next hb⟩) ?_
 try simp only[zzQ]
 refine zap (k1) (.bool br) (by cases k1<;>rfl) (λhg W' h=>by
  obtain⟨rfl⟩:k1=true:=by revert hg;cases k1<;>simp
  refine zah ?_ h
  (have h0:=hr.out;go_simp)) ?_
 try simp only[zzQ]
 refine za4 (.bool k2) (by rfl) (λW' h=>by cases k1<;>(have h0:=Hk2.out;simp only[Bool.true_and,Bool.false_and] at h0;(try subst h0);go_simp)) ?_
 try simp only[zzQ]
 refine za4 (.bool k2) (by rfl) (λW' h=>by go_simp) ?_
 try simp only[zzQ]
 refine zap (k2) (.agg #[St x3,St y3]) (by cases k2<;>rfl) (λhg W' h=>by
  obtain⟨rfl⟩:k2=true:=by revert hg;cases k2<;>simp
  refine zah ?_ h
  (obtain⟨i1,i2,i3,i4,i5,i6,i7,i8⟩:=h.cells';go_simp)) ?_
 try simp only[zzQ]
 refine zap (k2) (.agg #[St x4,St y4]) (by cases k2<;>rfl) (λhg W' h=>by
  obtain⟨rfl⟩:k2=true:=by revert hg;cases k2<;>simp
  refine zah ?_ h
  (obtain⟨i1,i2,i3,i4,i5,i6,i7,i8⟩:=h.cells';go_simp)) ?_
 try simp only[zzQ]
 refine zap (k2) (.agg #[St x2,St y2]) (by cases k2<;>rfl) (λhg W' h=>by
  obtain⟨rfl⟩:k2=true:=by revert hg;cases k2<;>simp
  refine zah ?_ h
  (obtain⟨i1,i2,i3,i4,i5,i6,i7,i8⟩:=h.cells';go_simp)) ?_
 try simp only[zzQ]
 refine zap (k2) (.int .i64 s) (by cases k2<;>rfl) (λhg W' h=>by
  obtain⟨rfl⟩:k2=true:=by revert hg;cases k2<;>simp
  go_simp
  refine(T4.out _ (HW.out.below h.bel)).mono ?_
  rintro e w' ⟨rfl,hb⟩
  exact⟨rfl,h.next hb⟩) ?_
 try simp only[zzQ]
 refine zap (k2) (.bool bs) (by cases k2<;>rfl) (λhg W' h=>by
  obtain⟨rfl⟩:k2=true:=by revert hg;cases k2<;>simp
  refine zah ?_ h
  (have h0:=hs.out;go_simp)) ?_
 try simp only[zzQ]
 refine za4 (.bool false) (by rfl) (λW' h=>by cases k2<;>(have h0:=Hk3.out;simp only[Bool.true_and,Bool.false_and] at h0;(try subst h0);go_simp)) ?_
 try simp only[zzQ]
 intro W2 h2
 have HI2:=hid h2
 clear h2 HI1
 change (Code.cond _ _ _).wp _ _ _ _
 refine wp_cond (t:=false) (by rfl) ?_
 refine wp_skip ?_
 change Code.wp _ _ _ _ _
 refine wp_seq (wp_seq ?_)
 refine zgn (λW=>FourS w x1 y1 x2 y2 x3 y3 x4 y4 W) HI2.out ?_
 refine za4 (.int .i64 p) (by rfl) (λW' h=>by go_simp) ?_
 try simp only[zzQ]
 refine za4 (.int .i64 q) (by rfl) (λW' h=>by go_simp) ?_
 try simp only[zzQ]
 refine za4 (.int .i64 m) (by rfl) (λW' h=>by(have h0:=hm.out;go_simp)) ?_
 try simp only[zzQ]
 refine za4 (.bool c1) (by rfl) (λW' h=>by(have h0:=hc1.out;go_simp)) ?_
 try simp only[zzQ]
 refine za4 (.bool c1) (by rfl) (λW' h=>by go_simp) ?_
 try simp only[zzQ]
 refine zap (c1) (.int .i64 r) (by cases c1<;>rfl) (λhg W' h=>by
  obtain⟨rfl⟩:c1=true:=by revert hg;cases c1<;>simp
  refine zah ?_ h
  (go_simp)) ?_
 try simp only[zzQ]
 refine zap (c1) (.int .i64 s) (by cases c1<;>rfl) (λhg W' h=>by
  obtain⟨rfl⟩:c1=true:=by revert hg;cases c1<;>simp
  refine zah ?_ h
  (go_simp)) ?_
 try simp only[zzQ]
 refine zap (c1) (.int .i64 n) (by cases c1<;>rfl) (λhg W' h=>by
  obtain⟨rfl⟩:c1=true:=by revert hg;cases c1<;>simp
  refine zah ?_ h
  (have h0:=hn.out;go_simp)) ?_
 try simp only[zzQ]
 refine zap (c1) (.bool c2) (by cases c1<;>rfl) (λhg W' h=>by
  obtain⟨rfl⟩:c1=true:=by revert hg;cases c1<;>simp
  refine zah ?_ h
  (have h0:=hc2.out;go_simp)) ?_
 try simp only[zzQ]
 refine za4 (.bool d1) (by rfl) (λW' h=>by cases c1<;>(have h0:=Hd1.out;simp only[Bool.true_and,Bool.false_and] at h0;(try subst h0);go_simp)) ?_
 try simp only[zzQ]
 refine za4 (.bool d1) (by rfl) (λW' h=>by go_simp) ?_
 try simp only[zzQ]
 refine zap (d1) (.int .i64 p) (by cases d1<;>rfl) (λhg W' h=>by
  obtain⟨rfl⟩:d1=true:=by revert hg;cases d1<;>simp
  refine zah ?_ h
  (go_simp)) ?_
 try simp only[zzQ]
 refine zap (d1) (.bool np) (by cases d1<;>rfl) (λhg W' h=>by
  obtain⟨rfl⟩:d1=true:=by revert hg;cases d1<;>simp
  refine zah ?_ h
  (have h0:=hnp.out;go_simp)) ?_
 try simp only[zzQ]
 refine zap (d1) (.bool np) (by cases d1<;>rfl) (λhg W' h=>by
  obtain⟨rfl⟩:d1=true:=by revert hg;cases d1<;>simp
  refine zah ?_ h
  (go_simp)) ?_
 try simp only[zzQ]
 refine zap (d1&&!np) (.agg #[St x1,St y1]) (by cases d1<;>cases np<;>rfl) (λhg W' h=>by
  obtain⟨rfl,rfl⟩:d1=true/\np=false:=by revert hg;cases d1<;>cases np<;>simp
  refine zah ?_ h
  (obtain⟨i1,i2,i3,i4,i5,i6,i7,i8⟩:=h.cells';go_simp)) ?_
 try simp only[zzQ]
 refine zap (d1&&!np) (.agg #[St x2,St y2]) (by cases d1<;>cases np<;>rfl) (λhg W' h=>by
  obtain⟨rfl,rfl⟩:d1=true/\np=false:=by revert hg;cases d1<;>cases np<;>simp
  refine zah ?_ h
  (obtain⟨i1,i2,i3,i4,i5,i6,i7,i8⟩:=h.cells';go_simp)) ?_
 try simp only[zzQ]
 refine zap (d1&&!np) (.agg #[St x3,St y3]) (by cases d1<;>cases np<;>rfl) (λhg W' h=>by
  obtain⟨rfl,rfl⟩:d1=true/\np=false:=by revert hg;cases d1<;>cases np<;>simp
  refine zah ?_ h
  (obtain⟨i1,i2,i3,i4,i5,i6,i7,i8⟩:=h.cells';go_simp)) ?_
 try simp only[zzQ]
 refine zap (d1&&!np) (.bool o1) (by cases d1<;>cases np<;>rfl) (λhg W' h=>by
  obtain⟨rfl,rfl⟩:d1=true/\np=false:=by revert hg;cases d1<;>cases np<;>simp
  go_simp
  refine(O1.out _ (HW.out.below h.bel)).mono ?_
  rintro e w' ⟨rfl,hb⟩
  exact⟨rfl,h.next hb⟩) ?_
 try simp only[zzQ]
 refine zap (d1) (.bool e1) (by cases d1<;>rfl) (λhg W' h=>by
  obtain⟨rfl⟩:d1=true:=by revert hg;cases d1<;>simp
  refine zah ?_ h
  cases np<;>(have h0:=He1.out;simp only[Bool.true_or,Bool.false_or] at h0;(try subst h0);go_simp)) ?_
 try simp only[zzQ]
 refine za4 (.bool d2) (by rfl) (λW' h=>by cases d1<;>(have h0:=Hd2.out;simp only[Bool.true_and,Bool.false_and] at h0;(try subst h0);go_simp)) ?_
 try simp only[zzQ]
 refine za4 (.bool d2) (by rfl) (λW' h=>by go_simp) ?_
 try simp only[zzQ]
 refine zap (d2) (.int .i64 q) (by cases d2<;>rfl) (λhg W' h=>by
  obtain⟨rfl⟩:d2=true:=by revert hg;cases d2<;>simp
  refine zah ?_ h
  (go_simp)) ?_
 try simp only[zzQ]
 refine zap (d2) (.bool nq) (by cases d2<;>rfl) (λhg W' h=>by
  obtain⟨rfl⟩:d2=true:=by revert hg;cases d2<;>simp
  refine zah ?_ h
  (have h0:=hnq.out;go_simp)) ?_
 try simp only[zzQ]
 refine zap (d2) (.bool nq) (by cases d2<;>rfl) (λhg W' h=>by
  obtain⟨rfl⟩:d2=true:=by revert hg;cases d2<;>simp
  refine zah ?_ h
  (go_simp)) ?_
 try simp only[zzQ]
 refine zap (d2&&!nq) (.agg #[St x1,St y1]) (by cases d2<;>cases nq<;>rfl) (λhg W' h=>by
  obtain⟨rfl,rfl⟩:d2=true/\nq=false:=by revert hg;cases d2<;>cases nq<;>simp
  refine zah ?_ h
  (obtain⟨i1,i2,i3,i4,i5,i6,i7,i8⟩:=h.cells';go_simp)) ?_
 try simp only[zzQ]
 refine zap (d2&&!nq) (.agg #[St x2,St y2]) (by cases d2<;>cases nq<;>rfl) (λhg W' h=>by
  obtain⟨rfl,rfl⟩:d2=true/\nq=false:=by revert hg;cases d2<;>cases nq<;>simp
  refine zah ?_ h
  (obtain⟨i1,i2,i3,i4,i5,i6,i7,i8⟩:=h.cells';go_simp)) ?_
 try simp only[zzQ]
 refine zap (d2&&!nq) (.agg #[St x4,St y4]) (by cases d2<;>cases nq<;>rfl) (λhg W' h=>by
  obtain⟨rfl,rfl⟩:d2=true/\nq=false:=by revert hg;cases d2<;>cases nq<;>simp
  refine zah ?_ h
  (obtain⟨i1,i2,i3,i4,i5,i6,i7,i8⟩:=h.cells';go_simp)) ?_
 try simp only[zzQ]
 refine zap (d2&&!nq) (.bool o2) (by cases d2<;>cases nq<;>rfl) (λhg W' h=>by
  obtain⟨rfl,rfl⟩:d2=true/\nq=false:=by revert hg;cases d2<;>cases nq<;>simp
  go_simp
  refine(O2.out _ (HW.out.below h.bel)).mono ?_
  rintro e w' ⟨rfl,hb⟩
  exact⟨rfl,h.next hb⟩) ?_
 try simp only[zzQ]
 refine zap (d2) (.bool e2) (by cases d2<;>rfl) (λhg W' h=>by
  obtain⟨rfl⟩:d2=true:=by revert hg;cases d2<;>simp
  refine zah ?_ h
  cases nq<;>(have h0:=He2.out;simp only[Bool.true_or,Bool.false_or] at h0;(try subst h0);go_simp)) ?_
 try simp only[zzQ]
 refine za4 (.bool d3) (by rfl) (λW' h=>by cases d2<;>(have h0:=Hd3.out;simp only[Bool.true_and,Bool.false_and] at h0;(try subst h0);go_simp)) ?_
 try simp only[zzQ]
 intro W3 h3
 have HI3:=hid h3
 clear h3 HI2
 change (Code.cond _ _ _).wp _ _ _ _
 refine wp_cond (t:=d3) (by rfl) ?_
 cases d3
 case true=>
  go_wp2_with fail
  go_ret
  exact⟨rfl,HI3.out.bel⟩
 case false=>
 refine wp_skip ?_
 change Code.wp _ _ _ _ _
 refine wp_seq (wp_seq ?_)
 refine zgn (λW=>FourS w x1 y1 x2 y2 x3 y3 x4 y4 W) HI3.out ?_
 refine za4 (.int .i64 p) (by rfl) (λW' h=>by go_simp) ?_
 try simp only[zzQ]
 refine za4 (.bool bp) (by rfl) (λW' h=>by(have h0:=hp.out;go_simp)) ?_
 try simp only[zzQ]
 refine za4 (.bool bp) (by rfl) (λW' h=>by go_simp) ?_
 try simp only[zzQ]
 refine zap (bp) (.agg #[St x1,St y1]) (by cases bp<;>rfl) (λhg W' h=>by
  obtain⟨rfl⟩:bp=true:=by revert hg;cases bp<;>simp
  refine zah ?_ h
  (obtain⟨i1,i2,i3,i4,i5,i6,i7,i8⟩:=h.cells';go_simp)) ?_
 try simp only[zzQ]
 refine zap (bp) (.agg #[St x2,St y2]) (by cases bp<;>rfl) (λhg W' h=>by
  obtain⟨rfl⟩:bp=true:=by revert hg;cases bp<;>simp
  refine zah ?_ h
  (obtain⟨i1,i2,i3,i4,i5,i6,i7,i8⟩:=h.cells';go_simp)) ?_
 try simp only[zzQ]
 refine zap (bp) (.agg #[St x3,St y3]) (by cases bp<;>rfl) (λhg W' h=>by
  obtain⟨rfl⟩:bp=true:=by revert hg;cases bp<;>simp
  refine zah ?_ h
  (obtain⟨i1,i2,i3,i4,i5,i6,i7,i8⟩:=h.cells';go_simp)) ?_
 try simp only[zzQ]
 refine zap (bp) (.bool o1) (by cases bp<;>rfl) (λhg W' h=>by
  obtain⟨rfl⟩:bp=true:=by revert hg;cases bp<;>simp
  go_simp
  refine(O1.out _ (HW.out.below h.bel)).mono ?_
  rintro e w' ⟨rfl,hb⟩
  exact⟨rfl,h.next hb⟩) ?_
 try simp only[zzQ]
 refine za4 (.bool f1) (by rfl) (λW' h=>by cases bp<;>(have h0:=Hf1.out;simp only[Bool.true_and,Bool.false_and] at h0;(try subst h0);go_simp)) ?_
 try simp only[zzQ]
 refine za4 (.bool f1) (by rfl) (λW' h=>by go_simp) ?_
 try simp only[zzQ]
 refine zap (!f1) (.int .i64 q) (by cases f1<;>rfl) (λhg W' h=>by
  obtain⟨rfl⟩:f1=false:=by revert hg;cases f1<;>simp
  refine zah ?_ h
  (go_simp)) ?_
 try simp only[zzQ]
 refine zap (!f1) (.bool bq) (by cases f1<;>rfl) (λhg W' h=>by
  obtain⟨rfl⟩:f1=false:=by revert hg;cases f1<;>simp
  refine zah ?_ h
  (have h0:=hq.out;go_simp)) ?_
 try simp only[zzQ]
 refine zap (!f1) (.bool bq) (by cases f1<;>rfl) (λhg W' h=>by
  obtain⟨rfl⟩:f1=false:=by revert hg;cases f1<;>simp
  refine zah ?_ h
  (go_simp)) ?_
 try simp only[zzQ]
 refine zap (!f1&&bq) (.agg #[St x1,St y1]) (by cases f1<;>cases bq<;>rfl) (λhg W' h=>by
  obtain⟨rfl,rfl⟩:f1=false/\bq=true:=by revert hg;cases f1<;>cases bq<;>simp
  refine zah ?_ h
  (obtain⟨i1,i2,i3,i4,i5,i6,i7,i8⟩:=h.cells';go_simp)) ?_
 try simp only[zzQ]
 refine zap (!f1&&bq) (.agg #[St x2,St y2]) (by cases f1<;>cases bq<;>rfl) (λhg W' h=>by
  obtain⟨rfl,rfl⟩:f1=false/\bq=true:=by revert hg;cases f1<;>cases bq<;>simp
  refine zah ?_ h
  (obtain⟨i1,i2,i3,i4,i5,i6,i7,i8⟩:=h.cells';go_simp)) ?_
 try simp only[zzQ]
 refine zap (!f1&&bq) (.agg #[St x4,St y4]) (by cases f1<;>cases bq<;>rfl) (λhg W' h=>by
  obtain⟨rfl,rfl⟩:f1=false/\bq=true:=by revert hg;cases f1<;>cases bq<;>simp
  refine zah ?_ h
  (obtain⟨i1,i2,i3,i4,i5,i6,i7,i8⟩:=h.cells';go_simp)) ?_
 try simp only[zzQ]
 refine zap (!f1&&bq) (.bool o2) (by cases f1<;>cases bq<;>rfl) (λhg W' h=>by
  obtain⟨rfl,rfl⟩:f1=false/\bq=true:=by revert hg;cases f1<;>cases bq<;>simp
  go_simp
  refine(O2.out _ (HW.out.below h.bel)).mono ?_
  rintro e w' ⟨rfl,hb⟩
  exact⟨rfl,h.next hb⟩) ?_
 try simp only[zzQ]
 refine zap (!f1) (.bool f2) (by cases f1<;>rfl) (λhg W' h=>by
  obtain⟨rfl⟩:f1=false:=by revert hg;cases f1<;>simp
  refine zah ?_ h
  cases bq<;>(have h0:=Hf2.out;simp only[Bool.true_and,Bool.false_and] at h0;(try subst h0);go_simp)) ?_
 try simp only[zzQ]
 refine za4 (.bool g2) (by rfl) (λW' h=>by cases f1<;>(have h0:=Hg2.out;simp only[Bool.true_or,Bool.false_or] at h0;(try subst h0);go_simp)) ?_
 try simp only[zzQ]
 refine za4 (.bool g2) (by rfl) (λW' h=>by go_simp) ?_
 try simp only[zzQ]
 refine zap (!g2) (.int .i64 r) (by cases g2<;>rfl) (λhg W' h=>by
  obtain⟨rfl⟩:g2=false:=by revert hg;cases g2<;>simp
  refine zah ?_ h
  (go_simp)) ?_
 try simp only[zzQ]
 refine zap (!g2) (.bool br) (by cases g2<;>rfl) (λhg W' h=>by
  obtain⟨rfl⟩:g2=false:=by revert hg;cases g2<;>simp
  refine zah ?_ h
  (have h0:=hr.out;go_simp)) ?_
 try simp only[zzQ]
 refine zap (!g2) (.bool br) (by cases g2<;>rfl) (λhg W' h=>by
  obtain⟨rfl⟩:g2=false:=by revert hg;cases g2<;>simp
  refine zah ?_ h
  (go_simp)) ?_
 try simp only[zzQ]
 refine zap (!g2&&br) (.agg #[St x3,St y3]) (by cases g2<;>cases br<;>rfl) (λhg W' h=>by
  obtain⟨rfl,rfl⟩:g2=false/\br=true:=by revert hg;cases g2<;>cases br<;>simp
  refine zah ?_ h
  (obtain⟨i1,i2,i3,i4,i5,i6,i7,i8⟩:=h.cells';go_simp)) ?_
 try simp only[zzQ]
 refine zap (!g2&&br) (.agg #[St x4,St y4]) (by cases g2<;>cases br<;>rfl) (λhg W' h=>by
  obtain⟨rfl,rfl⟩:g2=false/\br=true:=by revert hg;cases g2<;>cases br<;>simp
  refine zah ?_ h
  (obtain⟨i1,i2,i3,i4,i5,i6,i7,i8⟩:=h.cells';go_simp)) ?_
 try simp only[zzQ]
 refine zap (!g2&&br) (.agg #[St x1,St y1]) (by cases g2<;>cases br<;>rfl) (λhg W' h=>by
  obtain⟨rfl,rfl⟩:g2=false/\br=true:=by revert hg;cases g2<;>cases br<;>simp
  refine zah ?_ h
  (obtain⟨i1,i2,i3,i4,i5,i6,i7,i8⟩:=h.cells';go_simp)) ?_
 try simp only[zzQ]
 refine zap (!g2&&br) (.bool o3) (by cases g2<;>cases br<;>rfl) (λhg W' h=>by
  obtain⟨rfl,rfl⟩:g2=false/\br=true:=by revert hg;cases g2<;>cases br<;>simp
  go_simp
  refine(O3.out _ (HW.out.below h.bel)).mono ?_
  rintro e w' ⟨rfl,hb⟩
  exact⟨rfl,h.next hb⟩) ?_
 try simp only[zzQ]
 refine zap (!g2) (.bool f3) (by cases g2<;>rfl) (λhg W' h=>by
  obtain⟨rfl⟩:g2=false:=by revert hg;cases g2<;>simp
  refine zah ?_ h
  cases br<;>(have h0:=Hf3.out;simp only[Bool.true_and,Bool.false_and] at h0;(try subst h0);go_simp)) ?_
 try simp only[zzQ]
 refine za4 (.bool g3) (by rfl) (λW' h=>by cases g2<;>(have h0:=Hg3.out;simp only[Bool.true_or,Bool.false_or] at h0;(try subst h0);go_simp)) ?_
 try simp only[zzQ]
 refine za4 (.bool g3) (by rfl) (λW' h=>by go_simp) ?_
 try simp only[zzQ]
 refine zap (!g3) (.int .i64 s) (by cases g3<;>rfl) (λhg W' h=>by
  obtain⟨rfl⟩:g3=false:=by revert hg;cases g3<;>simp
  refine zah ?_ h
  (go_simp)) ?_
 try simp only[zzQ]
 refine zap (!g3) (.bool bs) (by cases g3<;>rfl) (λhg W' h=>by
  obtain⟨rfl⟩:g3=false:=by revert hg;cases g3<;>simp
  refine zah ?_ h
  (have h0:=hs.out;go_simp)) ?_
 try simp only[zzQ]
 refine zap (!g3) (.bool bs) (by cases g3<;>rfl) (λhg W' h=>by
  obtain⟨rfl⟩:g3=false:=by revert hg;cases g3<;>simp
  refine zah ?_ h
  (go_simp)) ?_
 try simp only[zzQ]
 refine zap (!g3&&bs) (.agg #[St x3,St y3]) (by cases g3<;>cases bs<;>rfl) (λhg W' h=>by
  obtain⟨rfl,rfl⟩:g3=false/\bs=true:=by revert hg;cases g3<;>cases bs<;>simp
  refine zah ?_ h
  (obtain⟨i1,i2,i3,i4,i5,i6,i7,i8⟩:=h.cells';go_simp)) ?_
 try simp only[zzQ]
 refine zap (!g3&&bs) (.agg #[St x4,St y4]) (by cases g3<;>cases bs<;>rfl) (λhg W' h=>by
  obtain⟨rfl,rfl⟩:g3=false/\bs=true:=by revert hg;cases g3<;>cases bs<;>simp
  refine zah ?_ h
  (obtain⟨i1,i2,i3,i4,i5,i6,i7,i8⟩:=h.cells';go_simp)) ?_
 try simp only[zzQ]
 refine zap (!g3&&bs) (.agg #[St x2,St y2]) (by cases g3<;>cases bs<;>rfl) (λhg W' h=>by
  obtain⟨rfl,rfl⟩:g3=false/\bs=true:=by revert hg;cases g3<;>cases bs<;>simp
  refine zah ?_ h
  (obtain⟨i1,i2,i3,i4,i5,i6,i7,i8⟩:=h.cells';go_simp)) ?_
 try simp only[zzQ]
 refine zap (!g3&&bs) (.bool o4) (by cases g3<;>cases bs<;>rfl) (λhg W' h=>by
  obtain⟨rfl,rfl⟩:g3=false/\bs=true:=by revert hg;cases g3<;>cases bs<;>simp
  go_simp
  refine(O4.out _ (HW.out.below h.bel)).mono ?_
  rintro e w' ⟨rfl,hb⟩
  exact⟨rfl,h.next hb⟩) ?_
 try simp only[zzQ]
 refine zap (!g3) (.bool f4) (by cases g3<;>rfl) (λhg W' h=>by
  obtain⟨rfl⟩:g3=false:=by revert hg;cases g3<;>simp
  refine zah ?_ h
  cases bs<;>(have h0:=Hf4.out;simp only[Bool.true_and,Bool.false_and] at h0;(try subst h0);go_simp)) ?_
 try simp only[zzQ]
 refine za4 (.bool g4) (by rfl) (λW' h=>by cases g3<;>(have h0:=Hg4.out;simp only[Bool.true_or,Bool.false_or] at h0;(try subst h0);go_simp)) ?_
 try simp only[zzQ]
 intro W4 h4
 have HI4:=hid h4
 clear h4 HI3
 change (Code.cond _ _ _).wp _ _ _ _
 refine wp_cond (t:=g4) (by rfl) ?_
 cases g4<;>(
  go_wp2_with fail
  go_ret
  exact⟨rfl,HI4.out.bel⟩)
end
section
open Go.RowKit Go.Shelf Lib Str Limb Geo
theorem zoo (a b p:Pt):onB a b p=true↔onR a b p:=by unfold onB onR;simp
theorem zqi {a b c d:Pt} (h0:¬(turn a b c=0/\turn a b d=0/\turn c d a=0/\turn c d b=0)):
 (if(((decide (turn a b c*turn a b d<=0)&&decide (turn c d a*turn c d b<=0))&&((turn a b c !=0)||onB a b c))&&((turn a b d !=0)||onB a b d))=true then(1:Int) else if(((((turn a b c==0)&&onB a b c)||((turn a b d==0)&&onB a b d))||((turn c d a==0)&&onB c d a))||((turn c d b==0)&&onB c d b))=true then 1 else 0)=meet a b c d:=by
 rw[<-zmd]
 unfold znt
 rw[if_neg h0]
 simp only[Bool.and_eq_true,Bool.or_eq_true,decide_eq_true_eq,bne_iff_ne,beq_iff_eq,zoo,and_assoc,or_assoc]
theorem zpj (a b c d e f:Pt):IntKind.i64.wrap (turn a b c*turn d e f)=turn a b c*turn d e f:=by
 unfold turn;exact zlg _ _ _ _
theorem z0a (a b c d:Pt) (k:Nat) (hk:0<k) (hk2:8*k+4<=300) (ha:szP a k) (hb:szP b k) (hc:szP c k) (hd:szP d k) (h0:¬(turn a b c=0/\turn a b d=0/\turn c d a=0/\turn c d b=0)) (w:zA) (hw:Wd w):
 zC zF 40 #[ptV a,ptV b,ptV c,ptV d] w λe w'=>e=.returned (.int .i64 (meet a b c d))/\zB w.heap.size w w':=by
 have hno:((((turn a b c==0)&&(turn a b d==0))&&(turn c d a==0))&&(turn c d b==0))=false:=by
  rw[Bool.eq_false_iff]
  intro h
  simp only[Bool.and_eq_true,beq_iff_eq,and_assoc] at h
  exact h0 h
 rw[<-zqi h0]
 exact zvn _ _ _ _ _ _ _ _ _ _ _ _ _ _ _ _ _ _ _ _ _ _ _ _ _ _ (hid rfl) (hid rfl) (hid rfl) (hid rfl) (hid rfl) (hid rfl) (hid (zpj a b c a b d)) (hid (zpj c d a c d b)) (hid rfl) (hid rfl) hno
  (hid λW hW=>zh8 a b c k hk hk2 ha hb hc W hW) (hid λW hW=>zh8 a b d k hk hk2 ha hb hd W hW) (hid λW hW=>zh8 c d a k hk hk2 hc hd ha W hW) (hid λW hW=>zh8 c d b k hk hk2 hc hd hb W hW)
  (hid λW hW=>zjm a b c k hk hk2 ha hb hc W hW) (hid λW hW=>zjm a b d k hk hk2 ha hb hd W hW) (hid λW hW=>zjm c d a k hk hk2 hc hd ha W hW) (hid λW hW=>zjm c d b k hk hk2 hc hd hb W hW) w (hid hw)
end
section
open Go.RowKit Go.Shelf Lib Str Limb
attribute [local go_sem] Oper.semAt_some
theorem zti (x u v s1 s2:ByteArray) (m d:Int) (hu:(u.toList==[48])=false) (hl:(u.size:Int)+v.size<=17) (hl0:u.size<=17/\v.size<=17)
 (CK:Hid (∀W:zA,Wd W->zC zF 166 #[.slice (some ⟨W.heap.size,0,none⟩) 1 1,.slice (some ⟨W.heap.size+1,0,none⟩) 1 1] ((W.alloc (.cells #[.string x] 25)).alloc (.cells #[.string x] 25)) λe w'=>e=.returned (.int .i64 0)/\zB W.heap.size W w'))
 (O:Hid (∀W:zA,Wd W->zC zF 167 #[.string x] W λe w'=>e=.returned (.agg #[.string u,.string v])/\zB W.heap.size W w'))
 (NU:Hid (∀W:zA,Wd W->zC zF 168 #[.string u] W λe w'=>e=.returned (.tuple #[.int .i64 m,.bool true])/\zB W.heap.size W w'))
 (NV:Hid (∀W:zA,Wd W->zC zF 168 #[.string v] W λe w'=>e=.returned (.tuple #[.int .i64 d,.bool true])/\zB W.heap.size W w'))
 (NN:Hid (∀W:zA,Wd W->Pw W->zC zF 169 #[.int .i64 m,.int .i64 d] W λe w'=>e=.returned (.tuple #[.string s1,.string s2])/\zB W.heap.size W w'))
 (w:zA) (HW:Hid (Wd w)) (HP:Hid (Pw w)):
 zC zF 126 #[.string x] w λe w'=>e=.returned (.tuple #[.string s1,.string s2,.int .i64 0])/\zB w.heap.size w w':=by
 have hck:=CK.out w HW.out
 have HCK:=hid hck;clear hck CK
 have hwl:IntKind.i64.wrap ((u.size:Int)+v.size)=(u.size:Int)+v.size:=IntWalk.i64_in _ ⟨by omega,by omega⟩
 go_enter Tryz.func126,Tryz.ntmps126
 go_wp2_with fail
 refine HCK.out.mono ?_
 rintro e w1 ⟨rfl,hb1⟩
 have HB1:=hid hb1;clear hb1 HCK
 go_wp2_with fail
 refine(O.out w1 (HW.out.below HB1.out)).mono ?_
 rintro e w2 ⟨rfl,hb2⟩
 have HB2:=hid (HB1.out.trans (hb2.mono HB1.out.size));clear hb2 HB1
 obtain⟨w3,hw3⟩:∃w3,w3=w2.alloc (.cells #[.string u,.string v] 200):=⟨_,rfl⟩
 have ha:zB w2.heap.size w2 w3:=by rw[hw3];exact(zM _ w2).alloc (zN _) _
 have A3:w3.heap[w2.heap.size]? =some (.cells #[.string u,.string v] 200 (0,0)):=by rw[hw3];exact zG w2 _
 have HB3:=hid (HB2.out.trans (ha.mono HB2.out.size))
 have c0:w3.cell? ⟨w2.heap.size,0,none⟩=some (.string u):=by rw[zJ A3];rfl
 have c1:w3.cell? ⟨w2.heap.size,1,none⟩=some (.string v):=by rw[zJ A3];rfl
 have C3:=hid (⟨c0,c1⟩:w3.cell? ⟨w2.heap.size,0,none⟩=some (.string u)/\w3.cell? ⟨w2.heap.size,1,none⟩=some (.string v))
 rw[hw3] at c0 c1
 have HW3:=hid hw3;clear hw3 ha A3
 go_wp2_with fail
 rw[<-HW3.out]
 clear c0 c1
 refine(NU.out w3 (HW.out.below HB3.out)).mono ?_
 rintro e w4 ⟨rfl,hb4⟩
 have HB4:=hid (HB3.out.trans (hb4.mono HB3.out.size))
 have c0:=(zac hb4).cell C3.out.1;have c1:=(zac hb4).cell C3.out.2
 clear hb4 HW3
 go_wp2_with fail
 refine(NV.out w4 (HW.out.below HB4.out)).mono ?_
 rintro e w5 ⟨rfl,hb5⟩
 have HB5:=hid (HB4.out.trans (hb5.mono HB4.out.size))
 clear hb5 c0 c1
 go_wp2_with fail
 refine(NN.out w5 (HW.out.below HB5.out) (HP.out.below HB5.out)).mono ?_
 rintro e w6 ⟨rfl,hb6⟩
 have HB6:=hid (HB5.out.trans (hb6.mono HB5.out.size))
 clear hb6
 go_wp2_with fail
 go_ret3
 exact⟨rfl,HB6.out⟩
theorem zc5 (n:Nat):numS ((n:Int):Rat)=zD n:=by rw[zha,Str.zad]
theorem zki {n k:Nat} (hk:0<k) (h:n<10^k):(zD n).length<=k:=(zaf n k hk).2 h
theorem z0b (W:zA) (t:TypeId) (x:List UInt8) (q:Rat) (hx:numS q=x):
 RowNums (some ⟨W.heap.size,0,none⟩) 1 (λ_=>q) ((W.alloc (.cells #[St x] t)).alloc (.cells #[St x] t))/\
 RowNums (some ⟨W.heap.size+1,0,none⟩) 1 (λ_=>q) ((W.alloc (.cells #[St x] t)).alloc (.cells #[St x] t)):=by
 have b1:=(Boxed.new W t (St x)).alloc (.cells #[St x] t)
 have b2:=Boxed.new (W.alloc (.cells #[St x] t)) t (St x)
 rw[zH] at b2
 constructor
 ·intro i hi
  obtain rfl:i=0:=by omega
  exact⟨_,_,rfl,by rw[hx];exact b1.cell⟩
 ·intro i hi
  obtain rfl:i=0:=by omega
  exact⟨_,_,rfl,by rw[hx];exact b2.cell⟩
theorem zlh (r:Nat) (hr:0<r) (hr2:r<=200) (H1:∀c l:Nat,c*c*l=r*r->(∀i,i<25->¬prN i*prN i∣l)->c=r/\l=1) (w:zA) (hw:Wd w) (hp:Pw w):
 zC zF 126 #[St (zD (r*r))] w λe w'=>e=.returned (.tuple #[St (zD r),St [49],.int .i64 0])/\zB w.heap.size w w':=by
 have hm:r*r<=200*200:=Nat.mul_le_mul hr2 hr2
 have hp0:0<r*r:=Nat.mul_pos hr hr
 have sz:∀k:List UInt8,(⟨k.toArray⟩:ByteArray).size=k.length:=λk=>by show k.toArray.size=_;simp
 have hl:(zD (r*r)).length<=5:=zki (by omega) (by omega)
 have d1:zD 1=[49]:=by rw[zae (by omega)];rfl
 have hq:=zc5 (r*r)
 have hnum:(((r*r:Nat):Int):Rat).num=((r*r:Nat):Int):=rfl
 have hden:(((r*r:Nat):Int):Rat).den=1:=rfl
 generalize hqq:(((r*r:Nat):Int):Rat)=q at*
 have hdig:digs q.num<=5:=by rw[hnum];show(zD (((r*r:Nat):Int).natAbs)).length<=5;rw[Int.natAbs_natCast];exact hl
 have hdl:(zD q.den).length=1:=by rw[hden,d1];rfl
 have hok:okQ q:=⟨by omega,by omega⟩
 refine zti ⟨(zD (r*r)).toArray⟩ ⟨(zD (r*r)).toArray⟩ ⟨#[49]⟩ ⟨(zD r).toArray⟩ ⟨#[49]⟩ ((r*r:Nat):Int) 1 ?_ ?_ ?_ (hid λW hW=>?_) (hid λW hW=>?_) (hid λW hW=>?_) (hid λW hW=>?_) (hid λW hW hP=>?_) w (hid hw) (hid hp)
 ·exact zhl (n:=r*r) rfl 0 (by omega) (by omega)
 ·rw[sz];show((zD (r*r)).length:Int)+1<=17;omega
 ·rw[sz];exact⟨by omega,by decide⟩
 ·obtain⟨t1,t2⟩:=z0b W 25 _ q hq
  have hal:zB W.heap.size W ((W.alloc (.cells #[St (zD (r*r))] 25)).alloc (.cells #[St (zD (r*r))] 25)):=((zM _ W).alloc (zN _) _).alloc (by simp) _
  refine(zji _ _ 1 1 1 1 (λ_=>q) (λ_=>q) (by omega) (by omega) (hid λ_ _ W hW=>zfj q hok W hW) (hid λ_ _ W hW=>zio q hok W hW) (hid λ_ _=>⟨by omega,by omega⟩)
   (hid λ_ _ W=>zma q (by rw[hnum];omega) W) _ (hid (hW.below hal)) (hid t1) (hid t2)).mono ?_
  rintro e w' ⟨rfl,hb⟩
  exact⟨rfl,hal.trans (hb.mono hal.size)⟩
 ·have:=zio q hok W hW
  rw[hq,hnum,hden,Str.zad,d1] at this
  exact this
 ·have:=zk7 (r*r) (by omega) W hW
  exact this
 ·have:=zk7 1 (by rw[d1];decide) W hW
  rw[d1] at this
  exact this
 ·refine znr r hr hr2 (hid H1) (hid λi hi W=>?_) W (hid hW) (hid hP)
  have h9:=zw4 i hi
  have h2:=zki (n:=prN i) (k:=2) (by omega) (by omega)
  have:=znc (prN i:Int) (by rw[Str.zad];omega) W
  rw[Str.zad] at this
  rw[z1r i hi]
  exact this
theorem zfg:zD 1=[49]:=by rw[zae (by omega)];rfl
theorem zx3:Lib.itoa 1=[49]:=by show Lib.itoa ((1:Nat):Int)=_;rw[Str.zad,zfg]
theorem zfc:numS 1=[49]:=by have:=zc5 1;rw[zfg] at this;exact this
theorem zn5:okQ 1:=⟨by show(zD 1).length<=300;rw[zfg];decide,by show(zD 1).length<=300;rw[zfg];decide⟩
theorem sz_1:sz 1 1:=⟨by decide,by decide⟩
theorem zpk (w:zA) (hw:Wd w):
 zC zF 172 #[.string ⟨#[49]⟩] w λe w'=>e=.returned (.tuple #[.string ⟨#[49]⟩,.bool true])/\zB w.heap.size w w':=by
 have HN:Hid (∀W:zA,Wd W->zC zF 168 #[.string ⟨#[49]⟩] W λe w'=>e=.returned (.tuple #[.int .i64 1,.bool true])/\zB W.heap.size W w'):=
  hid λW hW=>by have:=zk7 1 (by rw[zfg];decide) W hW;rw[zfg] at this;exact this
 have HI:Hid (∀W:zA,Wd W->zC zF 57 #[.int .i64 1] W λe w'=>e=.returned (.string ⟨#[49]⟩)/\zB W.heap.size W w'):=
  hid λW hW=>by have:=zb3 1 (by omega) (by omega) W hW;rw[zx3] at this;exact this
 have HW:=hid hw;clear hw
 go_enter Tryz.func172,Tryz.ntmps172
 go_wp2_with fail
 refine(HN.out w HW.out).mono ?_
 rintro e w1 ⟨rfl,hb1⟩
 go_wp2_with fail
 refine(zjj w1).mono ?_
 rintro e w2 ⟨rfl,hw1⟩
 have hw2:=hw1.symm;subst hw2;clear hw1
 go_wp2_with fail
 refine(HI.out w1 (HW.out.below hb1)).mono ?_
 rintro e w2 ⟨rfl,hb2⟩
 have hB:=hb1.trans (hb2.mono hb1.size)
 clear hb2
 go_wp2_with fail
 go_ret2
 exact⟨rfl,hB⟩
theorem zr9 (w:zA) (hw:Wd w):
 zC zF 173 #[.string ⟨#[49]⟩,.string ⟨#[49]⟩] w λe w'=>e=.returned (.string ⟨#[49]⟩)/\zB w.heap.size w w':=by
 have hd:=zoj 1 1 (by decide) 1 1 (by omega) (by omega) (by omega) sz_1 sz_1 w hw
 rw[show((1:Rat)/1)=1 by grind,zfc] at hd
 have HD:=hid hd;clear hd
 go_enter Tryz.func173,Tryz.ntmps173
 go_wp2_with fail
 refine HD.out.mono ?_
 rintro e w1 ⟨rfl,hb⟩
 go_wp2_with fail
 go_ret
 exact⟨rfl,hb⟩
theorem zop (w:zA) (hw:Wd w):
 zC zF 174 #[.agg #[.string ⟨#[49]⟩,.string ⟨#[49]⟩]] w λe w'=>e=.returned (.tuple #[.string ⟨#[49]⟩,.bool true])/\zB w.heap.size w w':=by
 obtain⟨W1,hW1⟩:∃W1,W1=w.alloc (.cells #[.string ⟨#[49]⟩,.string ⟨#[49]⟩] 200):=⟨_,rfl⟩
 have hb1:zB w.heap.size w W1:=by rw[hW1];exact(zM _ w).alloc (zN _) _
 have A:W1.heap[w.heap.size]? =some (.cells #[.string ⟨#[49]⟩,.string ⟨#[49]⟩] 200 (0,0)):=by rw[hW1];exact zG w _
 have a0:W1.cell? ⟨w.heap.size,0,none⟩=some (.string ⟨#[49]⟩):=by rw[zJ A];rfl
 have a1:W1.cell? ⟨w.heap.size,1,none⟩=some (.string ⟨#[49]⟩):=by rw[zJ A];rfl
 have HA:=hid (⟨a0,a1⟩:W1.cell? ⟨w.heap.size,0,none⟩=some (.string ⟨#[49]⟩)/\W1.cell? ⟨w.heap.size,1,none⟩=some (.string ⟨#[49]⟩))
 have HB:=hid hb1
 rw[hW1] at a0 a1
 have HW1:=hid hW1
 have HW:=hid hw
 clear hW1 hb1 A hw
 go_enter Tryz.func174,Tryz.ntmps174
 go_wp2_with fail
 rw[<-HW1.out]
 refine(zpk W1 (HW.out.below HB.out)).mono ?_
 rintro e w2 ⟨rfl,hb2⟩
 have HB2:=hid (HB.out.trans (hb2.mono HB.out.size))
 have g0:=(zac hb2).cell HA.out.1;have g1:=(zac hb2).cell HA.out.2
 clear hb2 a0 a1
 go_wp2_with fail
 refine(zpk w2 (HW.out.below HB2.out)).mono ?_
 rintro e w3 ⟨rfl,hb3⟩
 have HB3:=hid (HB2.out.trans (hb3.mono HB2.out.size))
 clear hb3 g0 g1
 go_wp2_with fail
 all_goals first|exact(zzU ‹_›).elim|skip
 refine(zr9 w3 (HW.out.below HB3.out)).mono ?_
 rintro e w4 ⟨rfl,hb4⟩
 have HB4:=HB3.out.trans (hb4.mono HB3.out.size)
 clear hb4
 go_wp2_with fail
 go_ret2
 exact⟨rfl,HB4⟩
theorem ztj (W:zA) (t:TypeId):
 RowNums (some ⟨W.heap.size,0,none⟩) 2 (λ_=>1) ((W.alloc (.cells #[St [49],St [49]] t)).alloc (.cells #[St [49],St [49]] t))/\
 RowNums (some ⟨W.heap.size+1,0,none⟩) 2 (λ_=>1) ((W.alloc (.cells #[St [49],St [49]] t)).alloc (.cells #[St [49],St [49]] t)):=by
 have A1:=(Below.heap_alloc (W.alloc (.cells #[St [49],St [49]] t)) (.cells #[St [49],St [49]] t) W.heap.size (by simp)).trans (zG W (.cells #[St [49],St [49]] t (0,0)))
 have A2:=zG (W.alloc (.cells #[St [49],St [49]] t)) (.cells #[St [49],St [49]] t (0,0))
 rw[zH] at A2
 constructor
 ·intro i hi
  refine⟨_,_,rfl,?_⟩
  rw[zfc,zJ A1]
  match i,hi with
  |0,_|1,_=>rfl
 ·intro i hi
  refine⟨_,_,rfl,?_⟩
  rw[zfc,zJ A2]
  match i,hi with
  |0,_|1,_=>rfl
theorem zpl (w:zA) (hw:Wd w):
 zC zF 127 #[.string ⟨#[49]⟩,.string ⟨#[49]⟩] w λe w'=>e=.returned (.tuple #[.string ⟨#[49]⟩,.bool true,.int .i64 0])/\zB w.heap.size w w':=by
 obtain⟨W1,hW1⟩:∃W1,W1=(w.alloc (.cells #[St [49],St [49]] 25)).alloc (.cells #[St [49],St [49]] 25):=⟨_,rfl⟩
 have hb1:zB w.heap.size w W1:=by rw[hW1];exact((zM _ w).alloc (zN _) _).alloc (by simp) _
 have hd1:digs (1:Rat).num<=90/\(zD (1:Rat).den).length<=90:=⟨by show(zD 1).length<=90;rw[zfg];decide,by show(zD 1).length<=90;rw[zfg];decide⟩
 obtain⟨t1,t2⟩:=ztj w 25
 rw[<-hW1] at t1 t2
 have hck:=zji _ _ 2 2 2 2 (λ_=>1) (λ_=>1) (by omega) (by omega) (hid λ_ _ W hW=>zfj 1 zn5 W hW) (hid λ_ _ W hW=>zio 1 zn5 W hW) (hid λ_ _=>hd1)
  (hid λ_ _ W=>zma 1 (by decide) W) W1 (hid (hw.below hb1)) (hid t1) (hid t2)
 have HCK:=hid hck
 have HO:Hid (∀W:zA,Wd W->zC zF 167 #[.string ⟨#[49]⟩] W λe w'=>e=.returned (.agg #[.string ⟨#[49]⟩,.string ⟨#[49]⟩])/\zB W.heap.size W w'):=hid λW hW=>by
  have:=zio 1 zn5 W hW
  rw[zfc,show(1:Rat).num=1 from rfl,show(1:Rat).den=1 from rfl,zx3,zfg] at this
  exact this
 have HD:Hid (∀W:zA,Wd W->zC zF 7 #[.string ⟨#[49]⟩,.string ⟨#[49]⟩] W λe w'=>e=.returned (.tuple #[.string ⟨#[49]⟩,.int .i64 0])/\zB W.heap.size W w'):=hid λW hW=>by
  have:=zoj 1 1 (by decide) 1 1 (by omega) (by omega) (by omega) sz_1 sz_1 W hW
  rw[show((1:Rat)/1)=1 by grind,zfc] at this
  exact this
 have HB1:=hid hb1
 have HW1:=hid hW1
 have HW:=hid hw
 clear hW1 hb1 hck hd1 t1 t2 hw
 go_enter Tryz.func127,Tryz.ntmps127
 go_wp2_with fail
 rw[<-show W1=(w.alloc (.cells #[.string ⟨#[49]⟩,.string ⟨#[49]⟩] 25)).alloc (.cells #[.string ⟨#[49]⟩,.string ⟨#[49]⟩] 25) from HW1.out]
 refine HCK.out.mono ?_
 rintro e w2 ⟨rfl,hb2⟩
 have HB2:=hid (HB1.out.trans (hb2.mono HB1.out.size));clear hb2 HCK HW1
 go_wp2_with fail
 refine(HD.out w2 (HW.out.below HB2.out)).mono ?_
 rintro e w3 ⟨rfl,hb3⟩
 have HB3:=hid (HB2.out.trans (hb3.mono HB2.out.size));clear hb3
 go_wp2_with fail
 refine(HO.out w3 (HW.out.below HB3.out)).mono ?_
 rintro e w4 ⟨rfl,hb4⟩
 have HB4:=hid (HB3.out.trans (hb4.mono HB3.out.size));clear hb4
 go_wp2_with fail
 refine(zop w4 (HW.out.below HB4.out)).mono ?_
 rintro e w5 ⟨rfl,hb5⟩
 have HB5:=HB4.out.trans (hb5.mono HB4.out.size);clear hb5
 go_wp2_with fail
 go_ret3
 exact⟨rfl,HB5⟩
structure PlusS (w:zA) (x y:List UInt8) (W:zA):Prop where
 bel:zB w.heap.size w W
 h0:W.heap[w.heap.size]? =some (.cells #[St x,St [49]] 127 (0,0))
 h1:W.heap[w.heap.size+1]? =some (.cells #[St y,St [49]] 127 (0,0))
 h2:W.heap[w.heap.size+1+1]? =some (.cells #[St [],St []] 127 (0,0))
theorem PlusS.next {w:zA} {x y:List UInt8} {W W':zA} (h:PlusS w x y W) (hb:zB W.heap.size W W'):PlusS w x y W':=
 have hc:=zac hb
 ⟨h.bel.trans (hb.mono h.bel.size),hc _ _ _ _ h.h0,hc _ _ _ _ h.h1,hc _ _ _ _ h.h2⟩
theorem PlusS.cells {w:zA} {x y:List UInt8} {W:zA} (h:PlusS w x y W):
 W.cell? ⟨w.heap.size,0,none⟩=some (St x)/\W.cell? ⟨w.heap.size,1,none⟩=some (.string ⟨#[49]⟩)/\W.cell? ⟨w.heap.size+1,0,none⟩=some (St y)/\W.cell? ⟨w.heap.size+1,1,none⟩=some (.string ⟨#[49]⟩)/\
 W.cell? ⟨w.heap.size+1+1,0,none⟩=some (St [])/\W.cell? ⟨w.heap.size+1+1,1,none⟩=some (St [])/\W.frozen? ⟨w.heap.size+1+1,0,none⟩=false/\W.frozen? ⟨w.heap.size+1+1,1,none⟩=false:=by
 refine⟨?_,?_,?_,?_,?_,?_,Go.Joins.unfrozen_of_block h.h2 0,Go.Joins.unfrozen_of_block h.h2 1⟩
 ·rw[zJ h.h0];rfl
 ·rw[zJ h.h0];rfl
 ·rw[zJ h.h1];rfl
 ·rw[zJ h.h1];rfl
 ·rw[zJ h.h2];rfl
 ·rw[zJ h.h2];rfl
theorem PlusS.start (w:zA) (x y:List UInt8):PlusS w x y (((w.alloc (.cells #[St x,St [49]] 127)).alloc (.cells #[St y,St [49]] 127)).alloc (.cells #[St [],St []] 127)):=by
 refine⟨(((zM _ w).alloc (zN _) _).alloc (by simp) _).alloc (by simp;omega) _,?_,?_,?_⟩
 ·exact(Below.heap_alloc _ _ _ (by simp;omega)).trans ((Below.heap_alloc _ _ _ (by simp)).trans (zG w _))
 ·have:=zG (w.alloc (.cells #[St x,St [49]] 127)) (.cells #[St y,St [49]] 127)
  rw[zH] at this
  exact(Below.heap_alloc _ _ _ (by simp)).trans this
 ·have:=zG ((w.alloc (.cells #[St x,St [49]] 127)).alloc (.cells #[St y,St [49]] 127)) (.cells #[St [],St []] 127)
  simp only[zH] at this
  exact this
theorem zx4 (x y z:List UInt8)
 (M:Hid (∀W:zA,Wd W->zC zF 82 #[St y,.string ⟨#[49]⟩] W λe w'=>e=.returned (.tuple #[St y,.int .i64 0])/\zB W.heap.size W w'))
 (A:Hid (∀W:zA,Wd W->zC zF 6 #[St x,St y] W λe w'=>e=.returned (.tuple #[St z,.int .i64 0])/\zB W.heap.size W w'))
 (w:zA) (HW:Hid (Wd w)):
 zC zF 128 #[.agg #[St x,St [49]],.agg #[St y,St [49]]] w λe w'=>e=.returned (.tuple #[.agg #[St z,St [49]],.int .i64 0])/\zB w.heap.size w w':=by
 have hS:=PlusS.start w x y
 obtain⟨c0,c1,c2,c3,c4,c5,f0,f1⟩:=hS.cells
 obtain⟨W1,hW1⟩:∃W1,W1=((w.alloc (.cells #[St x,St [49]] 127)).alloc (.cells #[St y,St [49]] 127)).alloc (.cells #[St [],St []] 127):=⟨_,rfl⟩
 rw[<-hW1] at hS
 have HS:=hid hS;have HW1:=hid hW1;clear hS hW1
 go_enter Tryz.func128,Tryz.ntmps128
 go_wp2_with fail
 have h9:=HW1.out
 rw[<-h9]
 clear h9 c0 c1 c2 c3 c4 c5 f0 f1
 refine(zpl W1 (HW.out.below HS.out.bel)).mono ?_
 rintro e w2 ⟨rfl,hb2⟩
 have H2:=hid (HS.out.next hb2);clear hb2 HS HW1
 obtain⟨c0,c1,c2,c3,c4,c5,f0,f1⟩:=H2.out.cells
 go_wp2_with fail
 refine(M.out w2 (HW.out.below H2.out.bel)).mono ?_
 rintro e w3 ⟨rfl,hb3⟩
 have H3:=hid (H2.out.next hb3);clear hb3 H2 c0 c1 c2 c3 c4 c5 f0 f1
 obtain⟨c0,c1,c2,c3,c4,c5,f0,f1⟩:=H3.out.cells
 go_wp2_with fail
 refine(A.out w3 (HW.out.below H3.out.bel)).mono ?_
 rintro e w4 ⟨rfl,hb4⟩
 have H4:=hid (H3.out.next hb4);clear hb4 H3 c0 c1 c2 c3 c4 c5 f0 f1
 obtain⟨c0,c1,c2,c3,c4,c5,f0,f1⟩:=H4.out.cells
 have hB4:=H4.out.bel
 go_wp2_with fail
 refine bodyPost_ret (v:=.tuple #[.agg #[St z,St [49]],.int .i64 0]) (by simp[results,Tryz.results128,go_sem,c4,c5]) rfl ⟨rfl,?_⟩
 repeat(first|exact hB4|refine Below.setCell ?_ (by simp;omega) _)
theorem zx5:(Tryz.prog.info? 127).map (λi=>(i.zero,i.size,i.bytes))=some (some (.agg #[St [],St []]),2,32):=by kernel_rfl
structure GateS (gb:Nat) (x:List UInt8) (W:zA):Prop where
 cls:∃cb cap cs,W.cell? ⟨gb,0,none⟩=some (.slice (some ⟨cb,0,none⟩) 1 cap)/\gb<cb/\W.heap[cb]? =some (.cells cs 127 (0,0))/\cs[0]? =some (St x)/\cs[1]? =some (St [49])
 fr:W.frozen? ⟨gb,0,none⟩=false
structure AddS (W:zA) (x:List UInt8) (gb base:Nat) (b:Nat×Value) (f:Nat->Bool) (X:zA):Prop where
 pre:f 11=false->zB W.heap.size W X
 new:f 11=false->f 10=true->X.cell? ⟨b.1,0,none⟩=some (St x)/\X.cell? ⟨b.1,1,none⟩=some (.string ⟨#[49]⟩)
 post:f 11=true->∃Y Z,zB W.heap.size W Y/\Y.grownBy Z none/\Z.ownsRow base 127 2 b.2 1 [St x,.string ⟨#[49]⟩]/\X=if f 14=true then Z.setCell ⟨gb,0,none⟩ b.2 else Z
theorem AddS.congr {W:zA} {x:List UInt8} {gb base:Nat} {b:Nat×Value} {f g:Nat->Bool} {X:zA} (h:AddS W x gb base b f X) (e10:g 10=f 10) (e11:g 11=f 11) (e14:g 14=f 14):AddS W x gb base b g X:=
 ⟨by rw[e11];exact h.pre,by rw[e10,e11];exact h.new,by rw[e11,e14];exact h.post⟩
theorem zqj (gb:Nat) (x:List UInt8) (w:zA) (hg:w.cell? ⟨gb,0,none⟩=some (.slice none 0 0)) (hf:w.frozen? ⟨gb,0,none⟩=false):
 zC zF 86 #[.pointer (some ⟨gb,0,none⟩),.agg #[St x,.string ⟨#[49]⟩]] w λe w'=>e=.returned (.int .i64 0)/\zB gb w w'/\GateS gb x w':=by
 obtain⟨i0,hi,hz0,hz1,hz2⟩:=info_parts zx5
 have hlt:=zbe hg
 obtain⟨W1,hW1⟩:∃W1,W1=w.alloc (.cells #[St x,.string ⟨#[49]⟩] 52):=⟨_,rfl⟩
 have hb1:zB w.heap.size w W1:=by rw[hW1];exact(zM _ w).alloc (zN _) _
 have A1:W1.heap[w.heap.size]? =some (.cells #[St x,.string ⟨#[49]⟩] 52 (0,0)):=by rw[hW1];exact zG w _
 have g1:=zai hb1 hg
 have f1:=(zac hb1).frozen hg hf
 have hz:W1.heap.size=w.heap.size+1:=by rw[hW1];simp
 have g2:=g1
 rw[hW1] at g2
 have HW1:=hid hW1
 clear hW1
 go_enter Tryz.func86,Tryz.ntmps86
 go_wp2_with fail
 refine wp_loop_rounds 1 ?_
 rw[rounds_succ]
 go_wp2_with fail
 have h9:=HW1.out
 rw[<-show W1=w.alloc (.cells #[St x,.string ⟨#[49]⟩] 52) from h9]
 have hks:∀w':zA,zB W1.heap.size W1 w'->w'.cell? ⟨gb,0,none⟩=some (.slice none 0 0)/\w'.cell? ⟨w.heap.size,0,none⟩=some (St x)/\w'.cell? ⟨w.heap.size,1,none⟩=some (.string ⟨#[49]⟩):=λw' hb=>
  ⟨zai hb g1,zai hb (by rw[zJ A1];rfl),zai hb (by rw[zJ A1];rfl)⟩
 have KS:=hid hks
 have HF:=hid f1
 have HG:=hid g1
 have HB1:=hid hb1
 clear hks h9 g2 A1 f1 g1 hb1 hf hg
 refine zc4 (λ(b:Nat×Value) i=>([.pointer (some ⟨gb,0,none⟩),.pointer (some ⟨gb,0,none⟩),.pointer (some ⟨gb,0,none⟩),.pointer (some ⟨gb,0,none⟩),.slice none 0 0,.pointer (some ⟨w.heap.size,0,none⟩),St x,.pointer (some ⟨w.heap.size,1,none⟩),.string ⟨#[49]⟩,.agg #[St x,.string ⟨#[49]⟩],.slice (some ⟨b.1,0,none⟩) 1 1,b.2,.pointer (some ⟨gb,0,none⟩),.pointer (some ⟨gb,0,none⟩)]:List Value).getD i undef) (AddS W1 x gb (w.heap.size+1)) (by kernel_rfl) (by kernel_rfl) (0,.slice none 0 0) ⟨λ_=>(zM _ W1).drew,λ_ h=>(by cases h),λh=>(by cases h)⟩ λb=>?_
 refine zag (.pointer (some ⟨gb,0,none⟩)) (by rfl) (by rfl) (λf W' h=>h.congr rfl rfl rfl) (λf W' hf h=>by go_simp) ?_
 try simp only[zzQ]
 refine zag (.pointer (some ⟨gb,0,none⟩)) (by rfl) (by rfl) (λf W' h=>h.congr rfl rfl rfl) (λf W' hf h=>by go_simp) ?_
 try simp only[zzQ]
 refine zag (.pointer (some ⟨gb,0,none⟩)) (by rfl) (by rfl) (λf W' h=>h.congr rfl rfl rfl) (λf W' hf h=>by go_simp) ?_
 try simp only[zzQ]
 refine zag (.pointer (some ⟨gb,0,none⟩)) (by rfl) (by rfl) (λf W' h=>h.congr rfl rfl rfl) (λf W' hf h=>by go_simp) ?_
 try simp only[zzQ]
 refine zag (.slice none 0 0) (by rfl) (by rfl) (λf W' h=>h.congr rfl rfl rfl) (λf W' hf h=>by have g:=KS.out _ (h.pre (hf.no (j:=11) hf.self (by kernel_rfl)));obtain⟨q0,q1,q2⟩:=g;go_simp) ?_
 try simp only[zzQ]
 refine zag (.pointer (some ⟨w.heap.size,0,none⟩)) (by rfl) (by rfl) (λf W' h=>h.congr rfl rfl rfl) (λf W' hf h=>by go_simp) ?_
 try simp only[zzQ]
 refine zag (St x) (by rfl) (by rfl) (λf W' h=>h.congr rfl rfl rfl) (λf W' hf h=>by have g:=KS.out _ (h.pre (hf.no (j:=11) (hf.no (j:=10) (hf.no (j:=9) hf.self (by kernel_rfl)) (by kernel_rfl)) (by kernel_rfl)));obtain⟨q0,q1,q2⟩:=g;go_simp) ?_
 try simp only[zzQ]
 refine zag (.pointer (some ⟨w.heap.size,1,none⟩)) (by rfl) (by rfl) (λf W' h=>h.congr rfl rfl rfl) (λf W' hf h=>by go_simp) ?_
 try simp only[zzQ]
 refine zag (.string ⟨#[49]⟩) (by rfl) (by rfl) (λf W' h=>h.congr rfl rfl rfl) (λf W' hf h=>by have g:=KS.out _ (h.pre (hf.no (j:=11) (hf.no (j:=10) (hf.no (j:=9) hf.self (by kernel_rfl)) (by kernel_rfl)) (by kernel_rfl)));obtain⟨q0,q1,q2⟩:=g;go_simp) ?_
 try simp only[zzQ]
 refine zag (.agg #[St x,.string ⟨#[49]⟩]) (by rfl) (by rfl) (λf W' h=>h.congr rfl rfl rfl) (λf W' hf h=>by go_simp) ?_
 try simp only[zzQ]
 refine zdc (.slice (some ⟨b.1,0,none⟩) 1 1) (by rfl) (by rfl) (λf W' hf h C' hC'=>by
  have h11:=(hf.no (j:=11) hf.self (by kernel_rfl))
  have hp:=h.pre h11
  have ha:zB W'.heap.size W' (W'.alloc (.cells #[St x,.string ⟨#[49]⟩] 127)):=(zM _ W').alloc (zN _) _
  have A:=zG W' (.cells #[St x,.string ⟨#[49]⟩] 127)
  have:=hC' (W'.heap.size,b.2) (W'.alloc (.cells #[St x,.string ⟨#[49]⟩] 127)) (λi hi=>?_) ⟨λ_=>hp.trans (ha.mono hp.size),λ_ _=>⟨by rw[zJ A];rfl,by rw[zJ A];rfl⟩,λk=>(by have k':f 11=true:=k;rw[h11] at k';cases k')⟩
  ·go_simp
   exact this
  ·match i,hi with
   |0,_|1,_|2,_|3,_|4,_|5,_|6,_|7,_|8,_|9,_|11,_|12,_|13,_=>rfl
   |10,hi=>rw[hf.self] at hi;cases hi
   |_+14,_=>rfl) ?_
 try simp only[zzQ]
 refine zdc b.2 (by rfl) (by rfl) (λf W' hf h C' hC'=>by
  have h11:=hf.self
  have h14:=(hf.no (j:=14) hf.self (by kernel_rfl))
  have h10:=hf.done 10 (by kernel_rfl)
  have hp:=h.pre h11
  obtain⟨n0,n1⟩:=h.new h11 h10
  refine zmb _ W' _ _ 121 rfl (w.heap.size+1) 127 i0 (.agg #[St [],St []]) 2 32 Tryz.underlying121 hi hz0 hz1 hz2 rfl (by decide) (.slice none 0 0) 0 [] rfl (World.ownsRow_nil _ _ _ _) ⟨b.1,0,none⟩ 1 1 [St x,.string ⟨#[49]⟩] rfl rfl (λi u hu=>?_) (λu hu=>?_) (by unfold maxLen;omega) (by omega) (by have:=hp.size;omega) (λv' w' hown' hgrow=>?_)
  ·match i,hu with
   |0,hu=>simp at hu;subst hu;exact n0
   |1,hu=>simp at hu;subst hu;exact n1
   |_+2,hu=>simp at hu
  ·simp at hu;rcases hu with rfl|rfl<;>rfl
  ·refine hC' (b.1,v') w' (λi hi=>?_) ⟨λk=>?_,λk=>?_,λ_=>⟨W',w',hp,hgrow,hown',?_⟩⟩
   ·match i,hi with
    |0,_|1,_|2,_|3,_|4,_|5,_|6,_|7,_|8,_|9,_|10,_|12,_|13,_=>rfl
    |11,hi=>rw[hf.self] at hi;cases hi
    |_+14,_=>rfl
   ·cases k
   ·cases k
   ·show w'=if f 14=true then _ else w'
    rw[h14];rfl) ?_
 try simp only[zzQ]
 refine zag (.pointer (some ⟨gb,0,none⟩)) (by rfl) (by rfl) (λf W' h=>h.congr rfl rfl rfl) (λf W' hf h=>by go_simp) ?_
 try simp only[zzQ]
 refine zag (.pointer (some ⟨gb,0,none⟩)) (by rfl) (by rfl) (λf W' h=>h.congr rfl rfl rfl) (λf W' hf h=>by go_simp) ?_
 try simp only[zzQ]
 refine zbv undef (by rfl) (by rfl) (λf W' hf h C' hC'=>by
  have h11:=hf.done 11 (by kernel_rfl)
  have h14:=hf.self
  obtain⟨Y,Z,hY,hZ,hz',rfl⟩:=h.post h11
  rw[h14,if_neg (by simp)] at*
  have hcell:=hZ.cell (zai hY HG.out) (by simp)
  have hfr:Z.frozen? ⟨gb,0,none⟩=false:=by
   rw[World.frozen?_of_block (a:=⟨gb,0,none⟩) (hZ.block _ (zbe (zai hY HG.out)) (by simp))];exact(zac hY).frozen HG.out HF.out
  have:=hC' (Z.setCell ⟨gb,0,none⟩ b.2) ⟨λk=>(by have k':f 11=false:=k;rw[h11] at k';cases k'),λk=>(by have k':f 11=false:=k;rw[h11] at k';cases k'),λ_=>⟨Y,Z,hY,hZ,hz',rfl⟩⟩
  obtain⟨q,m,c,e2⟩:∃q m c,b.2=.slice q m c:=by
   rcases hz'.2 with⟨e,_⟩|⟨g,cp,cur,e,_⟩<;>exact⟨_,_,_,e⟩
  rw[e2] at this
  go_simp
  exact this) ?_
 try simp only[Act.put]
 refine ze1 λf X hf h=>?_
 obtain⟨Y,Z,hY,hZ,hz',rfl⟩:=h.post (hf 11 (by decide))
 rw[if_pos (hf 14 (by decide))]
 have hcell:=hZ.cell (zai hY HG.out) (by simp)
 have hfr:Z.frozen? ⟨gb,0,none⟩=false:=by
  rw[World.frozen?_of_block (a:=⟨gb,0,none⟩) (hZ.block _ (zbe (zai hY HG.out)) (by simp))];exact(zac hY).frozen HG.out HF.out
 have hbel:zB gb w (Z.setCell ⟨gb,0,none⟩ b.2):=by
  have h1:zB gb w Y:=(HB1.out.mono (by omega)).trans (hY.mono (by omega))
  exact(h1.grown hZ (by have:=hY.size;omega) (λq e=>by cases e)).setCell (by simp) _
 have hgate:GateS gb x (Z.setCell ⟨gb,0,none⟩ b.2):=by
  refine⟨?_,by rw[World.frozen?_setCell];exact hfr⟩
  rcases hz'.2 with⟨_,e⟩|⟨g,cp,cur,e,hg1,hg2,_,_,hcs,htk⟩
  ·omega
  ·refine⟨g,cp,cur,by rw[<-e];exact za9 hcell,by omega,by rw[Below.heap_setCell _ _ _ _ (by simp;omega)];exact hg2,?_,?_⟩
   ·have h0:=congrArg (λl=>l[0]?) htk
    rw[List.getElem?_take] at h0
    simpa using h0
   ·have h0:=congrArg (λl=>l[1]?) htk
    rw[List.getElem?_take] at h0
    simpa using h0
 have HE:=hid (⟨hbel,hgate⟩:zB gb w (Z.setCell ⟨gb,0,none⟩ b.2)/\GateS gb x (Z.setCell ⟨gb,0,none⟩ b.2))
 clear hbel hgate hcell hfr hY hZ hz' h hf
 go_wp2_with fail
 go_ret
 exact⟨rfl,HE.out⟩
end
end Go.Proofs.YtlaccnphhomdgaaGreatDoor
