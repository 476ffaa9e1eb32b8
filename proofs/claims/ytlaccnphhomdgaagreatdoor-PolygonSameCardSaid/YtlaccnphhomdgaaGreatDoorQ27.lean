/- kingpostref10.segments, where all lies on one line: the ends that lie on both segments, each once. -/
import Derived.Test.YtlaccnphhomdgaaGreatDoorQ25
import Derived.Test.YtlaccnphhomdgaaGreatDoorQ16
import Derived.Test.YtlaccnphhomdgaaGreatDoorQ26
import Derived.Test.YtlaccnphhomdgaaGreatDoorQ24
import Derived.Test.YtlaccnphhomdgaaGreatDoorQ15
import Derived.Test.YtlaccnphhomdgaaGreatDoorQ19
import Derived.Maps.AppendAt
set_option maxRecDepth 100000
set_option maxHeartbeats 8000000
open Go renaming World → zA, Calls → zC
open Go.RowKit renaming Below → zB, intOf → zL
open Go.Proofs.Tryz renaming prog → zF
open Go.World renaming alloc_heap_new → zG
open Go.IntWalk renaming i64_in → zI
open Go.Joins renaming cell_of_block → zJ
open Go.RowKit.Below renaming refl → zM
open Nat renaming le_refl → zN, mod_lt → zP, mod_eq_of_lt → zQ, zero_le → zR
namespace Go.Proofs.YtlaccnphhomdgaaGreatDoor
section
open Go.RowKit Go.Shelf Lib Str Limb Geo
attribute [local go_sem] Oper.semAt_some
theorem z29:(Tryz.prog.info? 27).map (λi=>(i.zero,i.size,i.bytes))=some (some (.agg #[St [],St []]),2,32):=by kernel_rfl
def zhh:List (List UInt8×List UInt8)->List Value
 |[]=>[]
 |p::r=>St p.1::St p.2::zhh r
theorem zn6:∀(l:List (List UInt8×List UInt8)) (p:List UInt8×List UInt8),zhh (l++[p])=zhh l++[St p.1,St p.2]
 |[],_=>rfl
 |a::r,p=>by show St a.1::St a.2::zhh (r++[p])=_;rw[zn6 r p];rfl
theorem zsd:∀(l:List (List UInt8×List UInt8)) (k:Nat),k<l.length->(zhh l)[k*2]? =some (St (ptOf l k).1)/\(zhh l)[k*2+1]? =some (St (ptOf l k).2)
 |a::r,0,_=>⟨rfl,rfl⟩
 |a::r,k+1,h=>by
  have:=zsd r k (by simpa using h)
  rw[show(k+1)*2=k*2+1+1 by omega]
  exact this
def accT (ok:Nat->Bool) (x:Nat->List UInt8×List UInt8):Nat->List (List UInt8×List UInt8)
 |0=>[]
 |k+1=>if(ok k&&!(accT ok x k).contains (x k))=true then accT ok x k++[x k] else accT ok x k
theorem zg1 (ok:Nat->Bool) (x:Nat->List UInt8×List UInt8) (k:Nat):accT ok x (k+1)=if(ok k&&!(accT ok x k).contains (x k))=true then accT ok x k++[x k] else accT ok x k:=rfl
theorem zse (ok:Nat->Bool) (x:Nat->List UInt8×List UInt8):∀k,(accT ok x k).length<=k
 |0=>zN _
 |k+1=>by
  have:=zse ok x k
  rw[accT]
  split
  ·simp;exact this
  ·omega
theorem z0f (l:List (List UInt8×List UInt8)) (p:List UInt8×List UInt8) (j:Nat) (hj:j<l.length):(l.take (j+1)).contains p=((l.take j).contains p||decide (ptOf l j=p)):=by
 unfold ptOf
 rw[List.take_add_one,List.getElem?_eq_getElem hj]
 simp only[List.contains_eq_mem,Option.toList_some,List.mem_append,List.mem_singleton,Option.getD_some,Bool.decide_or]
 congr 1
 rw[decide_eq_decide]
 exact eq_comm
structure LineS (w:zA) (x1 y1 x2 y2 x3 y3 x4 y4:List UInt8) (E:Nat) (X Y:Nat->List UInt8) (q:Option Addr) (m c:Nat) (acc:List (List UInt8×List UInt8)) (W:zA):Prop where
 four:FourS w x1 y1 x2 y2 x3 y3 x4 y4 W
 hE:w.heap.size+3<E
 ends:∀k,k<4->W.cell? ⟨E,k*2,none⟩=some (St (X k))/\W.cell? ⟨E,k*2+1,none⟩=some (St (Y k))
 own:W.ownsRow (w.heap.size+4) 27 2 (.slice q m c) acc.length (zhh acc)
 len:m=acc.length
 ne:(Value.slice q m c).ownBlock≠some E
theorem zya {w:zA} {base:Nat} {e:TypeId} {s:Nat} {v:Value} {n:Nat} {xs:List Value} (h:w.ownsRow base e s v n xs):∃q c,v=.slice q n c:=by
 rcases h.2 with⟨rfl,rfl⟩|⟨g,cap,cur,rfl,_⟩
 ·exact⟨none,0,rfl⟩
 ·exact⟨_,_,rfl⟩
section
variable {w:zA} {x1 y1 x2 y2 x3 y3 x4 y4:List UInt8} {E:Nat} {X Y:Nat->List UInt8} {q:Option Addr} {m c:Nat} {acc:List (List UInt8×List UInt8)} {W:zA}
theorem LineS.next {W':zA} (h:LineS w x1 y1 x2 y2 x3 y3 x4 y4 E X Y q m c acc W) (hb:zB W.heap.size W W'):LineS w x1 y1 x2 y2 x3 y3 x4 y4 E X Y q m c acc W':=
 have ck:=zac hb
 ⟨h.four.next hb,h.hE,λk hk=>⟨ck.cell (h.ends k hk).1,ck.cell (h.ends k hk).2⟩,zcj ck h.own,h.len,h.ne⟩
theorem LineS.grow {Z:zA} {v':Value} {x:List UInt8×List UInt8} (h:LineS w x1 y1 x2 y2 x3 y3 x4 y4 E X Y q m c acc W) (hZ:W.grownBy Z (Value.slice q m c).ownBlock)
 (hz:Z.ownsRow (w.heap.size+4) 27 2 v' (acc.length+1) (zhh acc++[St x.1,St x.2])) (hat:v'.ownBlock=(Value.slice q m c).ownBlock\/v'.ownBlock=some W.heap.size):
 ∃q' c',v'=.slice q' (acc.length+1) c'/\LineS w x1 y1 x2 y2 x3 y3 x4 y4 E X Y q' (acc.length+1) c' (acc++[x]) Z:=by
 obtain⟨q',c',rfl⟩:=zya hz
 have hlt:∀g,(Value.slice q m c).ownBlock=some g->w.heap.size+4<=g:=λg e=>(h.own.lt g e).1
 have hne:∀b,b<w.heap.size+4->some b≠(Value.slice q m c).ownBlock:=λb hb e=>by have:=hlt b e.symm;omega
 have hEw:E<W.heap.size:=zbe (h.ends 0 (by omega)).1
 have hl:=h.four.lt
 refine⟨q',c',rfl,⟨h.four.bel.grown hZ (by omega) (λg e=>by have:=hlt g e;omega),Nat.lt_of_lt_of_le hl hZ.size,?_,?_,?_,?_⟩,h.hE,λk hk=>⟨hZ.cell (h.ends k hk).1 (λe=>h.ne e.symm),hZ.cell (h.ends k hk).2 (λe=>h.ne e.symm)⟩,?_,by simp,?_⟩
 ·rw[hZ.block _ (by omega) (hne _ (by omega))];exact h.four.h1
 ·rw[hZ.block _ (by omega) (hne _ (by omega))];exact h.four.h2
 ·rw[hZ.block _ (by omega) (hne _ (by omega))];exact h.four.h3
 ·rw[hZ.block _ (by omega) (hne _ (by omega))];exact h.four.h4
 ·rw[zn6,List.length_append];exact hz
 ·rcases hat with e|e<;>rw[e]
  ·exact h.ne
  ·intro e2;injection e2 with e2;omega
theorem LineS.at (h:LineS w x1 y1 x2 y2 x3 y3 x4 y4 E X Y q m c acc W) (k:Nat) (hk:k<acc.length):∃g,q=some ⟨g,0,none⟩/\W.cell? ⟨g,k*2,none⟩=some (St (ptOf acc k).1)/\W.cell? ⟨g,k*2+1,none⟩=some (St (ptOf acc k).2):=by
 obtain⟨h1,h2⟩:=zsd acc k hk
 rcases h.own.2 with⟨_,e⟩|⟨g,cap,cur,e,_⟩
 ·omega
 ·cases e
  have hc:=h.own.cells (g:=g) rfl
  have ha:∀j,(⟨g,0,none⟩:Addr).add j=⟨g,j,none⟩:=λj=>by unfold Addr.add;split<;>simp_all
  exact⟨g,rfl,by rw[<-ha];exact hc _ _ h1,by rw[<-ha];exact hc _ _ h2⟩
end
structure RndS (w:zA) (x1 y1 x2 y2 x3 y3 x4 y4:List UInt8) (E:Nat) (X Y:Nat->List UInt8) (q:Option Addr) (m c:Nat) (acc:List (List UInt8×List UInt8)) (B:Nat) (x y:List UInt8) (W:zA):Prop where
 line:LineS w x1 y1 x2 y2 x3 y3 x4 y4 E X Y q m c acc W
 bx:W.heap[B]? =some (.cells #[St x,St y] 27 (0,0))
section
variable {w:zA} {x1 y1 x2 y2 x3 y3 x4 y4 x y:List UInt8} {E B:Nat} {X Y:Nat->List UInt8} {q:Option Addr} {m c:Nat} {acc:List (List UInt8×List UInt8)} {W:zA}
theorem RndS.next {W':zA} (h:RndS w x1 y1 x2 y2 x3 y3 x4 y4 E X Y q m c acc B x y W) (hb:zB W.heap.size W W'):RndS w x1 y1 x2 y2 x3 y3 x4 y4 E X Y q m c acc B x y W':=
 ⟨h.line.next hb,(hb.block _ (Array.getElem?_eq_some_iff.1 h.bx).1).trans h.bx⟩
theorem RndS.bel (h:RndS w x1 y1 x2 y2 x3 y3 x4 y4 E X Y q m c acc B x y W):zB w.heap.size w W:=h.line.four.bel
theorem RndS.cx (h:RndS w x1 y1 x2 y2 x3 y3 x4 y4 E X Y q m c acc B x y W):W.cell? ⟨B,0,none⟩=some (St x)/\W.cell? ⟨B,1,none⟩=some (St y):=by have:=h.bx;simp[World.cell?,this]
end
theorem zor (x1 y1 x2 y2 x3 y3 x4 y4:List UInt8) (X Y:Nat->List UInt8) (o1 o2:Nat->Bool) (hX:Hid (∀k,k<4->(#[St x1,St y1,St x2,St y2,St x3,St y3,St x4,St y4]:Array Value)[k*2]? =some (St (X k))/\(#[St x1,St y1,St x2,St y2,St x3,St y3,St x4,St y4]:Array Value)[k*2+1]? =some (St (Y k))))
 (T1:Hid (∀W:zA,Wd W->zC zF 78 #[.agg #[St x1,St y1],.agg #[St x2,St y2],.agg #[St x3,St y3]] W λe w'=>e=.returned (.int .i64 0)/\zB W.heap.size W w'))
 (T2:Hid (∀W:zA,Wd W->zC zF 78 #[.agg #[St x1,St y1],.agg #[St x2,St y2],.agg #[St x4,St y4]] W λe w'=>e=.returned (.int .i64 0)/\zB W.heap.size W w'))
 (T3:Hid (∀W:zA,Wd W->zC zF 78 #[.agg #[St x3,St y3],.agg #[St x4,St y4],.agg #[St x1,St y1]] W λe w'=>e=.returned (.int .i64 0)/\zB W.heap.size W w'))
 (T4:Hid (∀W:zA,Wd W->zC zF 78 #[.agg #[St x3,St y3],.agg #[St x4,St y4],.agg #[St x2,St y2]] W λe w'=>e=.returned (.int .i64 0)/\zB W.heap.size W w'))
 (O1:Hid (∀k,k<4->∀W:zA,Wd W->zC zF 79 #[.agg #[St x1,St y1],.agg #[St x2,St y2],.agg #[St (X k),St (Y k)]] W λe w'=>e=.returned (.bool (o1 k))/\zB W.heap.size W w'))
 (O2:Hid (∀k,k<4->∀W:zA,Wd W->zC zF 79 #[.agg #[St x3,St y3],.agg #[St x4,St y4],.agg #[St (X k),St (Y k)]] W λe w'=>e=.returned (.bool (o2 k))/\zB W.heap.size W w'))
 (U1:Hid (∀k,k<4->∀W:zA,Wd W->zC zF 78 #[.agg #[St x1,St y1],.agg #[St x2,St y2],.agg #[St (X k),St (Y k)]] W λe w'=>e=.returned (.int .i64 0)/\zB W.heap.size W w'))
 (U2:Hid (∀k,k<4->∀W:zA,Wd W->zC zF 78 #[.agg #[St x3,St y3],.agg #[St x4,St y4],.agg #[St (X k),St (Y k)]] W λe w'=>e=.returned (.int .i64 0)/\zB W.heap.size W w'))
 (w:zA) (HW:Hid (Wd w)):
 zC zF 40 #[.agg #[St x1,St y1],.agg #[St x2,St y2],.agg #[St x3,St y3],.agg #[St x4,St y4]] w λe w'=>e=.returned (.int .i64 (min 2 ((accT (λk=>o1 k&&o2 k) (λk=>(X k,Y k)) 4).length:Int)))/\zB w.heap.size w w':=by
 have HI:=hid (FourS.start w x1 y1 x2 y2 x3 y3 x4 y4)
 go_enter Tryz.func40,Tryz.ntmps40
 go_wp2_with fail
 refine zbl (λ_ W=>FourS w x1 y1 x2 y2 x3 y3 x4 y4 W) (by kernel_rfl) (by kernel_rfl) (HI.out.next (zM _ _).drew) ?_
 refine zab (v:=.agg #[St x1,St y1]) (by rfl) (λf W' h=>h) (λf W' hf h=>by obtain⟨i1,i2,i3,i4,i5,i6,i7,i8⟩:=h.cells';go_simp) ?_
 try simp only[zzQ]
 refine zab (v:=.agg #[St x2,St y2]) (by rfl) (λf W' h=>h) (λf W' hf h=>by obtain⟨i1,i2,i3,i4,i5,i6,i7,i8⟩:=h.cells';go_simp) ?_
 try simp only[zzQ]
 refine zab (v:=.agg #[St x3,St y3]) (by rfl) (λf W' h=>h) (λf W' hf h=>by obtain⟨i1,i2,i3,i4,i5,i6,i7,i8⟩:=h.cells';go_simp) ?_
 try simp only[zzQ]
 refine zar (.int .i64 0) (by rfl) (λf W' hf h C' hC'=>by
  go_simp
  refine(T1.out _ (HW.out.below h.bel)).mono ?_
  rintro e w' ⟨rfl,hb⟩
  exact⟨rfl,hC' _ (h.next hb)⟩) ?_
 try simp only[zzQ]
 refine zab (v:=.agg #[St x1,St y1]) (by rfl) (λf W' h=>h) (λf W' hf h=>by obtain⟨i1,i2,i3,i4,i5,i6,i7,i8⟩:=h.cells';go_simp) ?_
 try simp only[zzQ]
 refine zab (v:=.agg #[St x2,St y2]) (by rfl) (λf W' h=>h) (λf W' hf h=>by obtain⟨i1,i2,i3,i4,i5,i6,i7,i8⟩:=h.cells';go_simp) ?_
 try simp only[zzQ]
 refine zab (v:=.agg #[St x4,St y4]) (by rfl) (λf W' h=>h) (λf W' hf h=>by obtain⟨i1,i2,i3,i4,i5,i6,i7,i8⟩:=h.cells';go_simp) ?_
 try simp only[zzQ]
 refine zar (.int .i64 0) (by rfl) (λf W' hf h C' hC'=>by
  go_simp
  refine(T2.out _ (HW.out.below h.bel)).mono ?_
  rintro e w' ⟨rfl,hb⟩
  exact⟨rfl,hC' _ (h.next hb)⟩) ?_
 try simp only[zzQ]
 refine zab (v:=.agg #[St x3,St y3]) (by rfl) (λf W' h=>h) (λf W' hf h=>by obtain⟨i1,i2,i3,i4,i5,i6,i7,i8⟩:=h.cells';go_simp) ?_
 try simp only[zzQ]
 refine zab (v:=.agg #[St x4,St y4]) (by rfl) (λf W' h=>h) (λf W' hf h=>by obtain⟨i1,i2,i3,i4,i5,i6,i7,i8⟩:=h.cells';go_simp) ?_
 try simp only[zzQ]
 refine zab (v:=.agg #[St x1,St y1]) (by rfl) (λf W' h=>h) (λf W' hf h=>by obtain⟨i1,i2,i3,i4,i5,i6,i7,i8⟩:=h.cells';go_simp) ?_
 try simp only[zzQ]
 refine zar (.int .i64 0) (by rfl) (λf W' hf h C' hC'=>by
  go_simp
  refine(T3.out _ (HW.out.below h.bel)).mono ?_
  rintro e w' ⟨rfl,hb⟩
  exact⟨rfl,hC' _ (h.next hb)⟩) ?_
 try simp only[zzQ]
 refine zab (v:=.agg #[St x3,St y3]) (by rfl) (λf W' h=>h) (λf W' hf h=>by obtain⟨i1,i2,i3,i4,i5,i6,i7,i8⟩:=h.cells';go_simp) ?_
 try simp only[zzQ]
 refine zab (v:=.agg #[St x4,St y4]) (by rfl) (λf W' h=>h) (λf W' hf h=>by obtain⟨i1,i2,i3,i4,i5,i6,i7,i8⟩:=h.cells';go_simp) ?_
 try simp only[zzQ]
 refine zab (v:=.agg #[St x2,St y2]) (by rfl) (λf W' h=>h) (λf W' hf h=>by obtain⟨i1,i2,i3,i4,i5,i6,i7,i8⟩:=h.cells';go_simp) ?_
 try simp only[zzQ]
 refine zar (.int .i64 0) (by rfl) (λf W' hf h C' hC'=>by
  go_simp
  refine(T4.out _ (HW.out.below h.bel)).mono ?_
  rintro e w' ⟨rfl,hb⟩
  exact⟨rfl,hC' _ (h.next hb)⟩) ?_
 try simp only[zzQ]
 refine zab (v:=.int .i64 0) (by rfl) (λf W' h=>h) (λf W' hf h=>by go_simp) ?_
 try simp only[zzQ]
 refine zab (v:=.int .i64 0) (by rfl) (λf W' h=>h) (λf W' hf h=>by go_simp) ?_
 try simp only[zzQ]
 refine zab (v:=.int .i64 0) (by rfl) (λf W' h=>h) (λf W' hf h=>by go_simp) ?_
 try simp only[zzQ]
 refine zab (v:=.int .i64 0) (by rfl) (λf W' h=>h) (λf W' hf h=>by go_simp) ?_
 try simp only[zzQ]
 refine zck λf W1 hf h1=>?_
 have HI1:=hid h1
 clear hf h1 HI
 obtain⟨i1,i2,i3,i4,i5,i6,i7,i8⟩:=HI1.out.cells'
 go_wp2_with fail
 clear i1 i2 i3 i4 i5 i6 i7 i8
 refine(T1.out _ (HW.out.below HI1.out.bel)).mono ?_
 rintro e W2 ⟨rfl,hb⟩
 have HI2:=hid (HI1.out.next hb)
 clear hb HI1
 obtain⟨i1,i2,i3,i4,i5,i6,i7,i8⟩:=HI2.out.cells'
 go_wp2_with fail
 clear i1 i2 i3 i4 i5 i6 i7 i8
 refine(T2.out _ (HW.out.below HI2.out.bel)).mono ?_
 rintro e W3 ⟨rfl,hb⟩
 have HI3:=hid (HI2.out.next hb)
 clear hb HI2
 obtain⟨i1,i2,i3,i4,i5,i6,i7,i8⟩:=HI3.out.cells'
 go_wp2_with fail
 clear i1 i2 i3 i4 i5 i6 i7 i8
 refine(T3.out _ (HW.out.below HI3.out.bel)).mono ?_
 rintro e W4 ⟨rfl,hb⟩
 have HI4:=hid (HI3.out.next hb)
 clear hb HI3
 obtain⟨i1,i2,i3,i4,i5,i6,i7,i8⟩:=HI4.out.cells'
 go_wp2_with fail
 clear i1 i2 i3 i4 i5 i6 i7 i8
 refine(T4.out _ (HW.out.below HI4.out.bel)).mono ?_
 rintro e W5 ⟨rfl,hb⟩
 have HI5:=hid (HI4.out.next hb)
 clear hb HI4
 have hba:zB W5.heap.size W5 (W5.alloc (.cells #[] 27)):=(zM _ W5).alloc (zN _) _
 obtain⟨i1,i2,i3,i4,i5,i6,i7,i8⟩:=HI5.out.cells'
 obtain⟨j1,j2,j3,j4,j5,j6,j7,j8⟩:=(HI5.out.next hba).cells'
 clear hba
 go_wp2
 obtain⟨W6,hW6⟩:∃W6,W6=(W5.alloc (.cells #[] 27)).alloc (.cells #[St x1,St y1,St x2,St y2,St x3,St y3,St x4,St y4] 27):=⟨_,rfl⟩
 rw[<-hW6]
 clear i1 i2 i3 i4 i5 i6 i7 i8 j1 j2 j3 j4 j5 j6 j7 j8
 have hS6:LineS w x1 y1 x2 y2 x3 y3 x4 y4 (W5.heap.size+1) X Y (some ⟨W5.heap.size,0,none⟩) 0 0 [] W6:=by
  have h5:=HI5.out
  have hl:=h5.lt
  have hb:zB W5.heap.size W5 ((W5.alloc (.cells #[] 27)).alloc (.cells #[St x1,St y1,St x2,St y2,St x3,St y3,St x4,St y4] 27)):=((zM _ W5).alloc (zN _) _).alloc (by simp) _
  have hn:=zG (W5.alloc (.cells #[] 27)) (.cells #[St x1,St y1,St x2,St y2,St x3,St y3,St x4,St y4] 27)
  rw[World.size_alloc] at hn
  rw[hW6]
  refine⟨h5.next hb,by have:=h5.lt;omega,λk hk=>?_,(World.ownsRow_made W5 #[] 0 (show w.heap.size+4<=W5.heap.size by omega) (by decide) rfl).alloc _,rfl,?_⟩
  ·rw[zJ hn,zJ hn]
   exact hX.out k hk
  ·intro e;have e2:=Option.some.inj e;have e3:W5.heap.size=W5.heap.size+1:=e2;omega
 have HS6:=hid hS6
 clear hS6 hW6 HI5
 generalize W5.heap.size+1=E at*
 go_loopw [13,15] (λv i wr=>∃(k:Nat) (q:Option Addr) (c:Nat),k<=4/\i=.int .i64 (k:Int)/\v=.slice q (accT (λk=>o1 k&&o2 k) (λk=>(X k,Y k)) k).length c/\Hid (LineS w x1 y1 x2 y2 x3 y3 x4 y4 E X Y q (accT (λk=>o1 k&&o2 k) (λk=>(X k,Y k)) k).length c (accT (λk=>o1 k&&o2 k) (λk=>(X k,Y k)) k) wr))
  (λ_ i _=>4-(zL i).toNat)
 case atStart=>exact⟨0,_,0,by omega,rfl,rfl,HS6⟩
 case round=>
  obtain⟨k,q,c,hk,rfl,rfl,hS⟩:=hrel
  clear HS6
  by_cases hlt:k<4
  ·obtain⟨e0,e1⟩:=hS.out.ends k hlt
   have C1:=hid (O1.out k hlt);have C2:=hid (O2.out k hlt);have C3:=hid (U1.out k hlt);have C4:=hid (U2.out k hlt)
   have ha:=zg1 (λk=>o1 k&&o2 k) (λk=>(X k,Y k)) k
   have HA:=hid ha;clear ha
   obtain⟨acc,hacc⟩:∃acc,acc=accT (λk=>o1 k&&o2 k) (λk=>(X k,Y k)) k:=⟨_,rfl⟩
   have hal:acc.length<=4:=by rw[hacc];exact Nat.le_trans (zse _ _ k) hk
   rw[<-hacc] at hS HA⊢
   have HACC:=hid hacc;clear hacc
   generalize X k=x at*
   generalize Y k=y at*
   generalize o1 k=b1 at*
   generalize o2 k=b2 at*
   have hba:zB wr.heap.size wr (wr.alloc (.cells #[St x,St y] 27)):=(zM _ wr).alloc (zN _) _
   have hx0:(wr.alloc (.cells #[St x,St y] 27)).heap[wr.heap.size]? =some (.cells #[St x,St y] 27 (0,0)):=zG _ _
   have R1:=hid (⟨hS.out.next hba,hx0⟩:RndS w x1 y1 x2 y2 x3 y3 x4 y4 E X Y q acc.length c acc wr.heap.size x y (wr.alloc (.cells #[St x,St y] 27)))
   obtain⟨i1,i2,i3,i4,i5,i6,i7,i8⟩:=R1.out.line.four.cells'
   clear hba hx0
   go_wp2_with fail
   clear i1 i2 i3 i4 i5 i6 i7 i8 e0 e1
   refine(C1.out _ (HW.out.below R1.out.bel)).mono ?_
   rintro e w2 ⟨rfl,hb2⟩
   have R2:=hid (R1.out.next hb2)
   clear hb2 R1 C1
   generalize wr.heap.size=B at*
   cases b1
   case false=>
    go_wp2_with fail
    go_roundw
    case rel=>exact⟨k+1,q,c,by omega,by go_num,by rw[HA.out,if_neg (by simp)],by rw[HA.out,if_neg (by simp)];exact hid R2.out.line⟩
    case measure=>simp[zL];omega
   obtain⟨i1,i2,i3,i4,i5,i6,i7,i8⟩:=R2.out.line.four.cells'
   obtain⟨e0,e1⟩:=R2.out.cx
   go_wp2_with fail
   clear i1 i2 i3 i4 i5 i6 i7 i8 e0 e1
   refine(C2.out _ (HW.out.below R2.out.bel)).mono ?_
   rintro e w3 ⟨rfl,hb3⟩
   have R3:=hid (R2.out.next hb3)
   clear hb3 R2 C2
   cases b2
   case false=>
    go_wp2_with fail
    go_roundw
    case rel=>exact⟨k+1,q,c,by omega,by go_num,by rw[HA.out,if_neg (by simp)],by rw[HA.out,if_neg (by simp)];exact hid R3.out.line⟩
    case measure=>simp[zL];omega
   obtain⟨i1,i2,i3,i4,i5,i6,i7,i8⟩:=R3.out.line.four.cells'
   obtain⟨e0,e1⟩:=R3.out.cx
   go_wp2_with fail
   clear i1 i2 i3 i4 i5 i6 i7 i8 e0 e1
   refine(C3.out _ (HW.out.below R3.out.bel)).mono ?_
   rintro e w4 ⟨rfl,hb4⟩
   have R4:=hid (R3.out.next hb4)
   clear hb4 R3 C3
   obtain⟨i1,i2,i3,i4,i5,i6,i7,i8⟩:=R4.out.line.four.cells'
   obtain⟨e0,e1⟩:=R4.out.cx
   go_wp2_with fail
   clear i1 i2 i3 i4 i5 i6 i7 i8 e0 e1
   refine(C4.out _ (HW.out.below R4.out.bel)).mono ?_
   rintro e w5 ⟨rfl,hb5⟩
   have R5:=hid (R4.out.next hb5)
   clear hb5 R4 C4
   go_wp2
   go_loopw [17,18] (λv i wr=>∃(j:Nat),j<=acc.length/\i=.int .i64 (j:Int)/\v=.bool ((acc.take j).contains (x,y))/\Hid (RndS w x1 y1 x2 y2 x3 y3 x4 y4 E X Y q acc.length c acc B x y wr))
    (λ_ i _=>acc.length-(zL i).toNat)
   case atStart=>exact⟨0,zR _,rfl,by simp,R5⟩
   case round=>
    obtain⟨j,hj,rfl,rfl,hR⟩:=hrel
    clear R5
    by_cases hjl:j<acc.length
    ·have HT:=hid (z0f acc (x,y) j hjl)
     obtain⟨g,rfl,g0,g1⟩:=hR.out.line.at j hjl
     obtain⟨e0,e1⟩:=hR.out.cx
     generalize ptOf acc j=pt at*
     obtain⟨px,py⟩:=pt
     generalize hC:(acc.take j).contains (x,y)=is at*
     have HC:=hid hC;clear hC
     dsimp only at g0 g1
     have hnx:∀n,RndS w x1 y1 x2 y2 x3 y3 x4 y4 E X Y (some ⟨g,0,none⟩) acc.length c acc B x y (wr.drewN n):=λn=>hR.out.next (zzD (zM _ _) _)
     have HNX:=hid hnx;clear hnx
     cases is
     case true=>
      go_wp2_with fail
      go_quiet (fail)
      go_wp2_with fail
      go_roundw
      case rel=>exact⟨j+1,by omega,by go_num,by rw[HT.out];rfl,hid (HNX.out _)⟩
      case measure=>simp[zL];omega
     case false=>
      by_cases hx:px=x
      ·by_cases hy:py=y
       ·subst hx;subst hy
        go_wp2_with fail
        go_quiet (fail)
        go_wp2_with fail
        go_roundw
        case rel=>exact⟨j+1,by omega,by go_num,by rw[HT.out];simp,hid (HNX.out _)⟩
        case measure=>simp[zL];omega
       ·have HT2:=hid (decide_eq_false (λe=>hy (Prod.ext_iff.1 e).2):decide ((px,py)=(x,y))=false)
        subst hx
        go_wp2_with fail
        go_quiet (fail)
        go_wp2_with fail
        go_roundw
        case rel=>exact⟨j+1,by omega,by go_num,by rw[HT.out,HT2.out];rfl,hid (HNX.out _)⟩
        case measure=>simp[zL];omega
      ·have HT2:=hid (decide_eq_false (λe=>hx (Prod.ext_iff.1 e).1):decide ((px,py)=(x,y))=false)
       go_wp2_with fail
       go_quiet (fail)
       go_wp2_with fail
       go_roundw
       case rel=>exact⟨j+1,by omega,by go_num,by rw[HT.out,HT2.out];rfl,hid (HNX.out _)⟩
       case measure=>simp[zL];omega
    ·obtain rfl:acc.length=j:=by omega
     rw[List.take_length]
     generalize hC:acc.contains (x,y)=is at*
     cases is
     case true=>
      go_wp2_with fail
      go_roundw
      case rel=>exact⟨k+1,q,c,by omega,by go_num,by rw[HA.out,if_neg (by simp)],by rw[HA.out,if_neg (by simp)];exact hid hR.out.line⟩
      case measure=>simp[zL];omega
     case false=>
      obtain⟨i0,hi,hz0,hz1,hz2⟩:=info_parts z29
      obtain⟨e0,e1⟩:=hR.out.cx
      have HD:=hid (⟨hi,hz0,hz1,hz2⟩:_/\_/\_/\_)
      clear hi hz0 hz1 hz2
      have hba:zB wr.heap.size wr (wr.alloc (.cells #[St x,St y] 27)):=(zM _ wr).alloc (zN _) _
      have hla:=hR.out.line.next hba
      have HLA:=hid (⟨hla,(by have:=hla.four.lt;omega:w.heap.size+4<=(wr.alloc (.cells #[St x,St y] 27)).heap.size)⟩:_/\_)
      clear hba hla
      go_wp2_with (at_builtin;refine wpList_append_own_at _ rfl _ _ 22 rfl (w.heap.size+4) 27 i0 (.agg #[St [],St []]) 2 32 Tryz.underlying22 HD.out.1 HD.out.2.1 HD.out.2.2.1 HD.out.2.2.2 rfl (by decide) (.slice q acc.length c) acc.length (zhh acc) rfl HLA.out.1.own ⟨wr.heap.size,0,none⟩ 1 1 [St x,St y] rfl rfl (zoq _ _ _ _) (zm4 _ _) (by unfold maxLen;omega) (by omega) HLA.out.2 ?_)
      intro v' w1 hown' hgrow hnil hat
      obtain⟨q',c',rfl,hl'⟩:=HLA.out.1.grow (x:=(x,y)) hgrow hown' (by simpa using hat)
      have HL:=hid hl'
      clear hown' hgrow hnil hat hl' HLA
      go_wp2_with fail
      go_roundw
      case rel=>exact⟨k+1,q',c',by omega,by go_num,by rw[HA.out,if_pos (by simp)];simp,by rw[HA.out,if_pos (by simp),List.length_append];exact HL⟩
      case measure=>simp[zL];omega
  ·obtain rfl:4=k:=by omega
   have HB:=hid hS.out.four.bel
   clear hS
   generalize hr:(accT (λk=>o1 k&&o2 k) (λk=>(X k,Y k)) 4).length=r at*
   have HR:=hid hr;clear hr
   go_wp2_with fail
   go_ret
   exact⟨by rw[HR.out];rfl,HB.out⟩
def ChkP (w:zA) (l:List Pt) (e:Ending) (w':zA):Prop:=∃r:Int,e=.returned (.int .i64 r)/\(r=0↔zch l/\zbz l)/\zB w.heap.size w w'
theorem ChkP.yes {w w':zA} {l:List Pt} (h:zch l/\zbz l) (hb:zB w.heap.size w w'):ChkP w l (.returned (.int .i64 0)) w':=⟨0,rfl,⟨λ_=>h,λ_=>rfl⟩,hb⟩
theorem ChkP.no {w w':zA} {l:List Pt} {r:Int} (hr:r≠0) (h:¬(zch l/\zbz l)) (hb:zB w.heap.size w w'):ChkP w l (.returned (.int .i64 r)) w':=⟨r,rfl,⟨λk=>absurd k hr,λk=>absurd k h⟩,hb⟩
theorem zj8 (k n:Nat):(((k:Int)+1).tmod (n:Int))=(((k+1)%n:Nat):Int):=by
 rw[show((k:Int)+1)=((k+1:Nat):Int) by omega,Int.tmod_eq_emod_of_nonneg (by omega),<-Int.natCast_emod]
theorem zhi {p:Option Addr} {l:List Pt} {W:zA} (h:RowPts p l W) (k:Nat) (h0:0<l.length):∃b off,p=some ⟨b,off,none⟩/\W.cell? ⟨b,off+k%l.length*2,none⟩=some (St (numS (cor l k).x))/\W.cell? ⟨b,off+k%l.length*2+1,none⟩=some (St (numS (cor l k).y)):=by
 obtain⟨b,off,e,h1,h2⟩:=h (k%l.length) (zP _ h0)
 rw[zj4 l _ (zP _ h0),zt4] at h1 h2
 exact⟨b,off,e,h1,h2⟩
theorem zue {a b:Pt} (h:numS a.x=numS b.x/\numS a.y=numS b.y):a=b:=by
 obtain⟨a1,a2⟩:=a;obtain⟨b1,b2⟩:=b
 have h1:=zh0 h.1;have h2:=zh0 h.2
 simp at h1 h2;rw[h1,h2]
theorem zvs (n i k:Nat) (hik:i<k) (hk:k<n):(((k:Int)==(i:Int)+1)=true/\zea n i k=1)\/(((k:Int)==(i:Int)+1)=false/\((i:Int)==0)=false/\zea n i k=0)\/
 (((k:Int)==(i:Int)+1)=false/\((i:Int)==0)=true/\((k:Int)==(n:Int)-1)=true/\zea n i k=1)\/(((k:Int)==(i:Int)+1)=false/\((i:Int)==0)=true/\((k:Int)==(n:Int)-1)=false/\zea n i k=0):=by
 unfold zea
 by_cases h1:k=i+1
 ·exact .inl ⟨by rw[beq_iff_eq];omega,if_pos (.inl h1)⟩
 ·have b1:((k:Int)==(i:Int)+1)=false:=by rw[beq_eq_false_iff_ne];omega
  by_cases h2:i=0
  ·have b2:((i:Int)==0)=true:=by rw[beq_iff_eq];omega
   by_cases h3:k=n-1
   ·exact .inr (.inr (.inl ⟨b1,b2,by rw[beq_iff_eq];omega,if_pos (.inr ⟨h2,h3⟩)⟩))
   ·exact .inr (.inr (.inr ⟨b1,b2,by rw[beq_eq_false_iff_ne];omega,if_neg (λh=>h.elim h1 (λh=>h3 h.2))⟩))
  ·exact .inr (.inl ⟨b1,by rw[beq_eq_false_iff_ne];omega,if_neg (λh=>h.elim h1 (λh=>h2 h.1))⟩)
theorem ztl (p:Option Addr) (cap:Nat) (l:List Pt) (h3:3<=l.length) (hlen:l.length<=4096)
 (CP:Hid (∀k,k<l.length->∀W:zA,Wd W->zC zF 39 #[.agg #[St (numS (cor l k).x),St (numS (cor l k).y)]] W λe w'=>e=.returned (.int .i64 0)/\zB W.heap.size W w'))
 (SG:Hid (∀i k,i<l.length->k<l.length->∀W:zA,Wd W->zC zF 40 #[.agg #[St (numS (cor l i).x),St (numS (cor l i).y)],.agg #[St (numS (cor l (i+1)).x),St (numS (cor l (i+1)).y)],.agg #[St (numS (cor l k).x),St (numS (cor l k).y)],.agg #[St (numS (cor l (k+1)).x),St (numS (cor l (k+1)).y)]] W λe w'=>e=.returned (.int .i64 (meet (cor l i) (cor l (i+1)) (cor l k) (cor l (k+1))))/\zB W.heap.size W w'))
 (w:zA) (HW:Hid (Wd w)) (HP:Hid (RowPts p l w)):
 zC zF 16 #[.slice p l.length cap] w (ChkP w l):=by
 obtain⟨n,hn⟩:∃n,n=l.length:=⟨_,rfl⟩
 obtain⟨b,off,rfl,_⟩:=zhi HP.out 0 (by omega)
 have hc:=λ(W:zA) (hb:zB w.heap.size w W) (k:Nat)=>zhi (HP.out.keep (zac hb)) k (by omega)
 have HC:Hid (∀W:zA,zB w.heap.size w W->∀k,W.cell? ⟨b,off+k%n*2,none⟩=some (St (numS (cor l k).x))/\W.cell? ⟨b,off+k%n*2+1,none⟩=some (St (numS (cor l k).y))):=hid λW hb k=>by
  obtain⟨b',off',e,h1,h2⟩:=hc W hb k
  obtain⟨rfl,rfl⟩:b=b'/\off=off':=by simpa using e
  rw[hn];exact⟨h1,h2⟩
 rw[<-hn] at h3 hlen⊢
 have HN:=hid hn;clear hn hc HP
 have hn1:decide ((4096:Int)<(n:Int))=false:=decide_eq_false (by omega)
 have hn2:decide ((n:Int)<3)=false:=decide_eq_false (by omega)
 go_enter Tryz.func16,Tryz.ntmps16
 go_wp2
 go_loopw [4] (λi wr=>∃(k:Nat),k<=n/\i=.int .i64 (k:Int)/\Hid (zB w.heap.size w wr))
  (λi _=>n-(zL i).toNat)
 case atStart=>exact⟨0,zR _,rfl,zM _ _⟩
 case round=>
  clear hn1 hn2
  obtain⟨k,hk,rfl,hB⟩:=hrel
  by_cases hlt:k<n
  ·obtain⟨c0,c1⟩:=HC.out wr hB.out k
   have hcp:=hid (CP.out k (by rw[<-HN.out];exact hlt) wr (HW.out.below hB.out))
   rw[zQ hlt] at c0 c1
   generalize numS (cor l k).x=x at*
   generalize numS (cor l k).y=y at*
   go_wp2_with fail
   refine hcp.out.mono ?_
   rintro e w2 ⟨rfl,hb2⟩
   have hB2:=hid (hB.out.trans (hb2.mono hB.out.size))
   clear hb2 hcp
   go_wp2_with fail
   go_roundw
   case rel=>exact⟨k+1,by omega,by go_num,hB2⟩
   case measure=>simp[zL];omega
  ·obtain rfl:n=k:=by omega
   have hB0:=hid hB.out
   clear hB CP
   go_wp2_with fail
   go_loopw [6] (λi wr=>∃(k:Nat),k<=n/\i=.int .i64 (k:Int)/\Hid (zB w.heap.size w wr)/\Hid (∀i,i<k->cor l i≠cor l (i+1)))
    (λi _=>n-(zL i).toNat)
   case atStart=>exact⟨0,zR _,rfl,hB0,λi h=>absurd h (by omega)⟩
   case round=>
    obtain⟨k,hk,rfl,hB,hS⟩:=hrel
    clear hB0
    by_cases hlt:k<n
    ·obtain⟨c0,c1⟩:=HC.out wr hB.out k
     obtain⟨d0,d1⟩:=HC.out wr hB.out (k+1)
     have ht:=zj8 k n
     have hn0:¬n=0:=by omega
     have hwr:IntKind.i64.wrap ((k:Int)+1)=(k:Int)+1:=zI _ ⟨by omega,by omega⟩
     have hkk:(k+1)%n<n:=zP _ (by omega)
     rw[zQ hlt] at c0 c1
     generalize (k+1)%n=k' at*
     have HSM:Hid (numS (cor l k).x=numS (cor l (k+1)).x/\numS (cor l k).y=numS (cor l (k+1)).y->cor l k=cor l (k+1)):=hid zue
     have HDF:Hid (cor l k=cor l (k+1)->numS (cor l k).x=numS (cor l (k+1)).x/\numS (cor l k).y=numS (cor l (k+1)).y):=hid λe=>by rw[e];exact⟨rfl,rfl⟩
     have HQ:=hid λm=>hB.out.trans ((zzD (zM _ wr) m).mono hB.out.size)
     generalize numS (cor l k).x=x at*
     generalize numS (cor l k).y=y at*
     generalize numS (cor l (k+1)).x=x' at*
     generalize numS (cor l (k+1)).y=y' at*
     by_cases hx:x=x'
     ·by_cases hy:y=y'
      ·subst hx;subst hy
       have HE:=hid (HSM.out ⟨rfl,rfl⟩)
       go_wp2_with fail
       go_quiet (fail)
       go_wp2_with fail
       go_ret
       exact ChkP.no (by decide) (λh=>h.1 k (by rw[<-HN.out];exact hlt) HE.out) (HQ.out _)
      ·have HE:=hid (λi (hi:i<k+1)=>(by
        by_cases e:i=k
        ·subst e;exact λe=>hy (HDF.out e).2
        ·exact hS.out i (by omega):cor l i≠cor l (i+1)))
       subst hx
       go_wp2_with fail
       go_quiet (fail)
       go_wp2_with fail
       go_roundw
       case rel=>exact⟨k+1,by omega,by go_num,hid (HQ.out _),HE⟩
       case measure=>simp[zL];omega
     ·have HE:=hid (λi (hi:i<k+1)=>(by
       by_cases e:i=k
       ·subst e;exact λe=>hx (HDF.out e).1
       ·exact hS.out i (by omega):cor l i≠cor l (i+1)))
      go_wp2_with fail
      go_quiet (fail)
      go_wp2_with fail
      go_roundw
      case rel=>exact⟨k+1,by omega,by go_num,hid (HQ.out _),HE⟩
      case measure=>simp[zL];omega
    ·obtain rfl:n=k:=by omega
     have hS0:=hid (λi hi=>hS.out i (by rw[HN.out];exact hi):zch l)
     have hB0:=hid hB.out
     clear hB hS
     go_wp2_with fail
     go_loopw [7] (λi wr=>∃(k:Nat),k<=n/\i=.int .i64 (k:Int)/\Hid (zB w.heap.size w wr)/\Hid (∀i k',i<k->i<k'->k'<l.length->okS2 l i k'))
      (λi _=>n-(zL i).toNat)
     case atStart=>exact⟨0,zR _,rfl,hB0,λi k' h=>absurd h (by omega)⟩
     case round=>
      obtain⟨i,hi,rfl,hB,hS⟩:=hrel
      clear hB0
      by_cases hin:i<n
      ·have hwr:IntKind.i64.wrap ((i:Int)+1)=(i:Int)+1:=zI _ ⟨by omega,by omega⟩
       go_wp2_with fail
       go_loopw [8] (λv wr=>∃(k:Nat),i<k/\k<=n/\v=.int .i64 (k:Int)/\Hid (zB w.heap.size w wr)/\Hid (∀k',i<k'->k'<k->okS2 l i k'))
        (λv _=>n-(zL v).toNat)
       case atStart=>exact⟨i+1,by omega,by omega,by go_num,hB,λk' h h2=>absurd h2 (by omega)⟩
       case round=>
        obtain⟨k,hik,hk,rfl,hB4,hS4⟩:=hrel
        by_cases hkn:k<n
        ·have ht:=zj8 i n;have ht2:=zj8 k n
         have hn0:¬n=0:=by omega
         have hwk:IntKind.i64.wrap ((k:Int)+1)=(k:Int)+1:=zI _ ⟨by omega,by omega⟩
         have hwn:IntKind.i64.wrap ((n:Int)-1)=(n:Int)-1:=zI _ ⟨by omega,by omega⟩
         have hi':(i+1)%n<n:=zP _ (by omega)
         have hk':(k+1)%n<n:=zP _ (by omega)
         have hcs:=HC.out
         have HCi:=hid λW h=>hcs W h i
         have HCj:=hid λW h=>hcs W h (i+1)
         have HCk:=hid λW h=>hcs W h k
         have HCm:=hid λW h=>hcs W h (k+1)
         rw[zQ hin] at HCi
         rw[zQ hkn] at HCk
         have HSG:=hid (SG.out i k (by rw[<-HN.out];exact hin) (by rw[<-HN.out];exact hkn))
         clear hcs
         generalize (i+1)%n=i' at*
         generalize (k+1)%n=k' at*
         generalize hm:meet (cor l i) (cor l (i+1)) (cor l k) (cor l (k+1))=m at*
         have HM:=hid (show meet (cor l i) (cor l (i+1)) (cor l k) (cor l (k+1))=m from hm);clear hm
         generalize numS (cor l i).x=xi at HCi HSG
         generalize numS (cor l i).y=yi at HCi HSG
         generalize numS (cor l (i+1)).x=xj at HCj HSG
         generalize numS (cor l (i+1)).y=yj at HCj HSG
         generalize numS (cor l k).x=xk at HCk HSG
         generalize numS (cor l k).y=yk at HCk HSG
         generalize numS (cor l (k+1)).x=xm at HCm HSG
         generalize numS (cor l (k+1)).y=ym at HCm HSG
         obtain⟨bv,hbv⟩:∃bv,(m !=zea n i k)=bv:=⟨_,rfl⟩
         have HO:Hid (bv=false->okS2 l i k):=hid λe=>by
          have h1:meet (cor l i) (cor l (i+1)) (cor l k) (cor l (k+1))=m:=HM.out
          rw[e] at hbv;unfold okS2;rw[h1,<-HN.out];simpa using hbv
         have HF:Hid (bv=true->¬okS2 l i k):=hid λe=>by
          have h1:meet (cor l i) (cor l (i+1)) (cor l k) (cor l (k+1))=m:=HM.out
          rw[e] at hbv;unfold okS2;rw[h1,<-HN.out];simpa using hbv
         clear HC SG HM
         rcases zvs n i k hik hkn with⟨f1,hv⟩|⟨f1,f2,hv⟩|⟨f1,f2,f3,hv⟩|⟨f1,f2,f3,hv⟩
         all_goals
          rw[hv] at hbv
          have HV:=hid hbv
          clear hbv
          go_wp2_with fail
          refine zbl (λ_ W=>zB w.heap.size w W) (by kernel_rfl) (by kernel_rfl) hB4.out.drew ?_
          refine zab (v:=.slice (some ⟨b,off,none⟩) n cap) (by rfl) (λf W' h=>h) (λf W' hf h=>by go_simp) ?_
          try simp only[zzQ]
          refine zab (v:=.int .i64 (i:Int)) (by rfl) (λf W' h=>h) (λf W' hf h=>by go_simp) ?_
          try simp only[zzQ]
          refine zab (v:=.pointer (some ⟨b,off+i*2,none⟩)) (by rfl) (λf W' h=>h) (λf W' hf h=>by go_simp) ?_
          try simp only[zzQ]
          refine zab (v:=.agg #[St xi,St yi]) (by rfl) (λf W' h=>h) (λf W' hf h=>by obtain⟨c0,c1⟩:=HCi.out _ h;go_simp) ?_
          try simp only[zzQ]
          refine zab (v:=.slice (some ⟨b,off,none⟩) n cap) (by rfl) (λf W' h=>h) (λf W' hf h=>by go_simp) ?_
          try simp only[zzQ]
          refine zab (v:=.int .i64 (i:Int)) (by rfl) (λf W' h=>h) (λf W' hf h=>by go_simp) ?_
          try simp only[zzQ]
          refine zab (v:=.int .i64 ((i:Int)+1)) (by rfl) (λf W' h=>h) (λf W' hf h=>by go_simp) ?_
          try simp only[zzQ]
          refine zab (v:=.int .i64 (n:Int)) (by rfl) (λf W' h=>h) (λf W' hf h=>by go_simp) ?_
          try simp only[zzQ]
          refine zab (v:=.int .i64 (i':Int)) (by rfl) (λf W' h=>h) (λf W' hf h=>by go_simp) ?_
          try simp only[zzQ]
          refine zab (v:=.pointer (some ⟨b,off+i'*2,none⟩)) (by rfl) (λf W' h=>h) (λf W' hf h=>by go_simp) ?_
          try simp only[zzQ]
          refine zab (v:=.agg #[St xj,St yj]) (by rfl) (λf W' h=>h) (λf W' hf h=>by obtain⟨c0,c1⟩:=HCj.out _ h;go_simp) ?_
          try simp only[zzQ]
          refine zab (v:=.slice (some ⟨b,off,none⟩) n cap) (by rfl) (λf W' h=>h) (λf W' hf h=>by go_simp) ?_
          try simp only[zzQ]
          refine zab (v:=.int .i64 (k:Int)) (by rfl) (λf W' h=>h) (λf W' hf h=>by go_simp) ?_
          try simp only[zzQ]
          refine zab (v:=.pointer (some ⟨b,off+k*2,none⟩)) (by rfl) (λf W' h=>h) (λf W' hf h=>by go_simp) ?_
          try simp only[zzQ]
          refine zab (v:=.agg #[St xk,St yk]) (by rfl) (λf W' h=>h) (λf W' hf h=>by obtain⟨c0,c1⟩:=HCk.out _ h;go_simp) ?_
          try simp only[zzQ]
          refine zab (v:=.slice (some ⟨b,off,none⟩) n cap) (by rfl) (λf W' h=>h) (λf W' hf h=>by go_simp) ?_
          try simp only[zzQ]
          refine zab (v:=.int .i64 (k:Int)) (by rfl) (λf W' h=>h) (λf W' hf h=>by go_simp) ?_
          try simp only[zzQ]
          refine zab (v:=.int .i64 ((k:Int)+1)) (by rfl) (λf W' h=>h) (λf W' hf h=>by go_simp) ?_
          try simp only[zzQ]
          refine zab (v:=.int .i64 (n:Int)) (by rfl) (λf W' h=>h) (λf W' hf h=>by go_simp) ?_
          try simp only[zzQ]
          refine zab (v:=.int .i64 (k':Int)) (by rfl) (λf W' h=>h) (λf W' hf h=>by go_simp) ?_
          try simp only[zzQ]
          refine zab (v:=.pointer (some ⟨b,off+k'*2,none⟩)) (by rfl) (λf W' h=>h) (λf W' hf h=>by go_simp) ?_
          try simp only[zzQ]
          refine zab (v:=.agg #[St xm,St ym]) (by rfl) (λf W' h=>h) (λf W' hf h=>by obtain⟨c0,c1⟩:=HCm.out _ h;go_simp) ?_
          try simp only[zzQ]
          refine zar (.int .i64 m) (by rfl) (λf W' hf h C' hC'=>by
           go_simp
           refine(HSG.out _ (HW.out.below h)).mono ?_
           rintro e w' ⟨rfl,hb⟩
           exact⟨rfl,hC' _ (h.trans (hb.mono h.size))⟩) ?_
          try simp only[zzQ]
          refine zab (v:=.int .i64 (zea n i k)) (by rfl) (λf W' h=>h) (λf W' hf h=>by go_simp) ?_
          try simp only[zzQ]
          refine zab (v:=.bool bv) (by rfl) (λf W' h=>h) (λf W' hf h=>by have h0:=HV.out;go_simp) ?_
          try simp only[zzQ]
          refine zck λf W5 hf h5=>?_
          have HB5:=hid h5
          clear hf h5
          cases bv
          case false=>
           go_wp2_with fail
           go_roundw
           case rel=>exact⟨k+1,by omega,by omega,by go_num,HB5,λk' h1 h2=>(by
            by_cases e:k'=k
            ·subst e;exact HO.out (by trivial)
            ·exact hS4.out k' h1 (by omega))⟩
           case measure=>simp[zL];omega
          case true=>
           go_wp2_with fail
           go_ret
           exact ChkP.no (by decide) (λh=>HF.out (by trivial) (h.2 i k hik (by rw[<-HN.out];exact hkn))) HB5.out
        ·obtain rfl:n=k:=by omega
         go_wp2_with fail
         go_roundw
         case rel=>exact⟨i+1,by omega,by go_num,hB4,λi' k' h1 h2 h3=>(by
          by_cases e:i'=i
          ·subst e;exact hS4.out k' h2 (by rw[HN.out];exact h3)
          ·exact hS.out i' k' (by omega) h2 h3)⟩
         case measure=>simp[zL];omega
      ·obtain rfl:n=i:=by omega
       have hS1:=hid (λi k h1 h2=>hS.out i k (by rw[HN.out];omega) h1 h2:zbz l)
       go_wp2_with fail
       go_ret
       exact ChkP.yes ⟨hS0.out,hS1.out⟩ hB.out
end
section
open Go.RowKit Go.Shelf Lib Str Limb Geo
def endP (a b c d:Pt) (k:Nat):Pt:=[a,b,c,d][k]?.getD a
theorem z0g {p q:Pt}:((numS p.x,numS p.y)=(numS q.x,numS q.y))↔p=q:=⟨λh=>zue ⟨(Prod.ext_iff.1 h).1,(Prod.ext_iff.1 h).2⟩,λh=>by rw[h]⟩
theorem z2f (l:List Pt) (p:Pt):(txt l).contains (numS p.x,numS p.y)=l.contains p:=by
 unfold txt
 rw[List.contains_eq_mem,List.contains_eq_mem,decide_eq_decide,List.mem_map]
 exact⟨λ⟨q,hq,e⟩=>z0g.1 e▸hq,λh=>⟨p,h,rfl⟩⟩
theorem z0h (P:Pt->Bool) (a b c d:Pt):(accT (λk=>P (endP a b c d k)) (λk=>(numS (endP a b c d k).x,numS (endP a b c d k).y)) 4).length=(uniq P [] [a,b,c,d]).length:=by
 have step:∀(acc:List Pt) (p:Pt),(if(P p&&!(txt acc).contains (numS p.x,numS p.y))=true then txt acc++[(numS p.x,numS p.y)] else txt acc)=txt (if(P p&&!acc.contains p)=true then acc++[p] else acc):=by
  intro acc p
  rw[z2f]
  split
  ·unfold txt;simp
  ·rfl
 have e:accT (λk=>P (endP a b c d k)) (λk=>(numS (endP a b c d k).x,numS (endP a b c d k).y)) 4=txt (uniq P [] [a,b,c,d]):=by
  rw[zg1,zg1,zg1,zg1]
  simp only[uniq]
  rw[show accT (λk=>P (endP a b c d k)) (λk=>(numS (endP a b c d k).x,numS (endP a b c d k).y)) 0=txt [] from rfl]
  rw[show endP a b c d 0=a from rfl,show endP a b c d 1=b from rfl,show endP a b c d 2=c from rfl,show endP a b c d 3=d from rfl]
  rw[step,step,step,step]
 rw[e,za2]
theorem z2g (a b c d:Pt) (k:Nat) (hk:0<k) (hk2:8*k+4<=300) (ha:szP a k) (hb:szP b k) (hc:szP c k) (hd:szP d k) (w:zA) (hw:Wd w):
 zC zF 40 #[ptV a,ptV b,ptV c,ptV d] w λe w'=>e=.returned (.int .i64 (meet a b c d))/\zB w.heap.size w w':=by
 by_cases h0:turn a b c=0/\turn a b d=0/\turn c d a=0/\turn c d b=0
 ·obtain⟨t1,t2,t3,t4⟩:=h0
  have he:∀j,j<4->szP (endP a b c d j) k/\turn a b (endP a b c d j)=0/\turn c d (endP a b c d j)=0:=by
   intro j hj
   match j,hj with
   |0,_=>exact⟨ha,zcz _ _,t3⟩
   |1,_=>exact⟨hb,zc8 _ _,t4⟩
   |2,_=>exact⟨hc,t1,zcz _ _⟩
   |3,_=>exact⟨hd,t2,zc8 _ _⟩
  have T:∀p q r:Pt,szP p k->szP q k->szP r k->turn p q r=0->∀W:zA,Wd W->zC zF 78 #[ptV p,ptV q,ptV r] W λe w'=>e=.returned (.int .i64 0)/\zB W.heap.size W w':=λp q r hp hq hr h W hW=>by
   rw[<-h];exact zh8 p q r k hk hk2 hp hq hr W hW
  have hv:meet a b c d=min 2 ((accT (λk=>onB a b (endP a b c d k)&&onB c d (endP a b c d k)) (λk=>(numS (endP a b c d k).x,numS (endP a b c d k).y)) 4).length:Int):=by
   rw[z0h (λp=>onB a b p&&onB c d p),<-zmd]
   unfold znt
   rw[if_pos ⟨t1,t2,t3,t4⟩]
   congr 3
   have:∀(l acc:List Pt),(∀p∈l,turn a b p=0/\turn c d p=0)->uniq (λx=>decide (onR a b x)&&decide (onR c d x)&&decide (turn a b x=0)&&decide (turn c d x=0)) acc l=uniq (λp=>onB a b p&&onB c d p) acc l:=by
    intro l
    induction l with
    |nil=>intro acc _;rfl
    |cons x r ih=>
     intro acc h
     obtain⟨z1,z2⟩:=h x (by simp)
     have e1:onB a b x=decide (onR a b x):=by rw[Bool.eq_iff_iff,zoo,decide_eq_true_iff]
     have e2:onB c d x=decide (onR c d x):=by rw[Bool.eq_iff_iff,zoo,decide_eq_true_iff]
     rw[uniq,uniq,ih _ (λp hp=>h p (by simp[hp]))]
     simp only[e1,e2,z1,z2,decide_true,Bool.and_true]
   refine this _ _ λp hp=>?_
   simp at hp
   rcases hp with rfl|rfl|rfl|rfl
   ·exact(he 0 (by omega)).2
   ·exact(he 1 (by omega)).2
   ·exact(he 2 (by omega)).2
   ·exact(he 3 (by omega)).2
  rw[hv]
  exact zor _ _ _ _ _ _ _ _ (λk=>numS (endP a b c d k).x) (λk=>numS (endP a b c d k).y) (λk=>onB a b (endP a b c d k)) (λk=>onB c d (endP a b c d k))
   (hid λj hj=>by
     match j,hj with
     |0,_|1,_|2,_|3,_=>exact⟨rfl,rfl⟩)
   (hid λW hW=>T a b c ha hb hc t1 W hW) (hid λW hW=>T a b d ha hb hd t2 W hW) (hid λW hW=>T c d a hc hd ha t3 W hW) (hid λW hW=>T c d b hc hd hb t4 W hW)
   (hid λj hj W hW=>zjm a b (endP a b c d j) k hk hk2 ha hb (he j hj).1 W hW) (hid λj hj W hW=>zjm c d (endP a b c d j) k hk hk2 hc hd (he j hj).1 W hW)
   (hid λj hj W hW=>T a b (endP a b c d j) ha hb (he j hj).1 (he j hj).2.1 W hW) (hid λj hj W hW=>T c d (endP a b c d j) hc hd (he j hj).1 (he j hj).2.2 W hW) w (hid hw)
 ·exact z0a a b c d k hk hk2 ha hb hc hd h0 w hw
theorem zyb (p:Option Addr) (cap:Nat) (l:List Pt) (h3:3<=l.length) (hlen:l.length<=4096) (hz:∀i,szP (cor l i) 36) (w:zA) (hw:Wd w) (hp:RowPts p l w):
 zC zF 16 #[.slice p l.length cap] w (ChkP w l):=
 ztl p cap l h3 hlen (hid λk _ W hW=>zx1 (cor l k) (hz k) W hW) (hid λi k _ _ W hW=>z2g _ _ _ _ 36 (by omega) (by omega) (hz _) (hz _) (hz _) (hz _) W hW) w (hid hw) (hid hp)
end
section
open Go.RowKit Go.Shelf Lib Str Limb Geo
attribute [local go_sem] Oper.semAt_some
def zlu (x:List UInt8×List UInt8):Prop:=x.1.length<=12/\x.2.length<=12/\okS x.1/\okS x.2
def BoolP (w:zA) (G:Prop) (e:Ending) (w':zA):Prop:=∃b:Bool,e=.returned (.bool b)/\(b=false↔G)/\zB w.heap.size w w'
theorem BoolP.no {w w':zA} {G:Prop} (h:¬G) (hb:zB w.heap.size w w'):BoolP w G (.returned (.bool true)) w':=⟨true,rfl,⟨λk=>by simp at k,λk=>absurd k h⟩,hb⟩
theorem BoolP.yes {w w':zA} {G:Prop} (h:G) (hb:zB w.heap.size w w'):BoolP w G (.returned (.bool false)) w':=⟨false,rfl,⟨λ_=>h,λ_=>rfl⟩,hb⟩
theorem z01 (l:List UInt8):(upS l).length<=l.length/\(dnS l).length<=l.length:=by
 have hb:(bare l).length<=l.length:=by
  rcases zhb l with⟨_,h⟩|⟨_,h⟩
  ·have:=congrArg List.length h;simp at this;omega
  ·rw[<-h];exact zN _
 constructor
 ·exact Nat.le_trans (List.takeWhile_sublist _).length_le hb
 ·unfold dnS
  have:=(List.dropWhile_sublist (p:=(· !=(47:UInt8))) (l:=bare l)).length_le
  simp;omega
theorem zlk (l:List UInt8) (h:l.length<=12) (w:zA) (hw:Wd w):
 zC zF 38 #[St l] w λe w'=>∃r:Int,e=.returned (.int .i64 r)/\(r=0↔okS l)/\zB w.heap.size w w':=
 zvb l (by have:=(z01 l).1;omega) (by have:=(z01 l).2;omega) (by omega) w hw
theorem ztm (x y:ByteArray) (Q1 Q2:Prop)
 (C1:Hid (x.size<=12->∀W:zA,Wd W->zC zF 38 #[.string x] W λe w'=>∃r:Int,e=.returned (.int .i64 r)/\(r=0↔Q1)/\zB W.heap.size W w'))
 (C2:Hid (y.size<=12->∀W:zA,Wd W->zC zF 38 #[.string y] W λe w'=>∃r:Int,e=.returned (.int .i64 r)/\(r=0↔Q2)/\zB W.heap.size W w'))
 (w:zA) (HW:Hid (Wd w)):
 zC zF 37 #[.agg #[.string x,.string y]] w (BoolP w (x.size<=12/\y.size<=12/\Q1/\Q2)):=by
 obtain⟨W1,hW1⟩:∃W1,W1=w.alloc (.cells #[.string x,.string y] 27):=⟨_,rfl⟩
 have hb1:zB w.heap.size w W1:=by rw[hW1];exact(zM _ w).alloc (zN _) _
 have A:W1.heap[w.heap.size]? =some (.cells #[.string x,.string y] 27 (0,0)):=by rw[hW1];exact zG w _
 have a0:W1.cell? ⟨w.heap.size,0,none⟩=some (.string x):=by rw[zJ A];rfl
 have a1:W1.cell? ⟨w.heap.size,1,none⟩=some (.string y):=by rw[zJ A];rfl
 have i0:=a0;have i1:=a1
 rw[hW1] at i0 i1
 have HB:=hid hb1
 have HW1:=hid hW1
 have HA:=hid (⟨a0,a1⟩:W1.cell? ⟨w.heap.size,0,none⟩=some (.string x)/\W1.cell? ⟨w.heap.size,1,none⟩=some (.string y))
 clear hb1 A hW1 a0 a1
 by_cases h1:(12:Int)<x.size
 ·have HN:=hid (λh=>by omega:¬(x.size<=12/\y.size<=12/\Q1/\Q2))
  go_enter Tryz.func37,Tryz.ntmps37
  go_wp2_with fail
  go_ret
  exact BoolP.no HN.out (by rw[<-HW1.out];exact HB.out)
 ·by_cases h2:(12:Int)<y.size
  ·have HN:=hid (λh=>by omega:¬(x.size<=12/\y.size<=12/\Q1/\Q2))
   go_enter Tryz.func37,Tryz.ntmps37
   go_wp2_with fail
   go_ret
   exact BoolP.no HN.out (by rw[<-HW1.out];exact HB.out)
  ·have c1:=C1.out (by omega) W1 (HW.out.below HB.out)
   have H1:=hid c1;clear c1
   have C3:=hid (C2.out (by omega))
   have hq:(x.size<=12/\y.size<=12/\Q1/\Q2)↔Q1/\Q2:=⟨λh=>h.2.2,λh=>⟨by omega,by omega,h⟩⟩
   rw[hq]
   clear hq
   go_enter Tryz.func37,Tryz.ntmps37
   go_wp2_with fail
   rw[<-HW1.out]
   refine H1.out.mono ?_
   rintro e w2 ⟨r,rfl,hr,hb2⟩
   have HR:=hid hr
   have hB2:=HB.out.trans (hb2.mono HB.out.size)
   have g0:=(zac hb2).cell HA.out.1;have g1:=(zac hb2).cell HA.out.2
   clear hr hb2 i0 i1
   by_cases h0:r=0
   ·have hrb:(r !=0)=false:=by subst h0;rfl
    have HR0:=hid (HR.out.1 h0)
    clear h0
    go_wp2_with fail
    refine(C3.out w2 (HW.out.below hB2)).mono ?_
    rintro e w3 ⟨r3,rfl,hr3,hb3⟩
    have hB3:=hB2.trans (hb3.mono hB2.size)
    by_cases h3:r3=0
    ·have hrb3:(r3 !=0)=false:=by subst h3;rfl
     have HR3:=hid (hr3.1 h3)
     clear h3 hr3 hb3
     go_wp2_with fail
     go_ret
     exact BoolP.yes ⟨HR0.out,HR3.out⟩ hB3
    ·have hrb3:(r3 !=0)=true:=by simpa using h3
     have HR3:=hid (λh=>h3 (hr3.2 h):¬Q2)
     clear h3 hr3 hb3
     go_wp2_with fail
     go_ret
     exact BoolP.no (λh=>HR3.out h.2) hB3
   ·have hrb:(r !=0)=true:=by simpa using h0
    have HR0:=hid (λh=>h0 (HR.out.2 h):¬Q1)
    clear h0
    go_wp2_with fail
    go_ret
    exact BoolP.no (λh=>HR0.out h.1) hB2
theorem zyc (x:List UInt8×List UInt8) (w:zA) (hw:Wd w):
 zC zF 37 #[.agg #[St x.1,St x.2]] w (BoolP w (zlu x)):=by
 have sz:∀k:List UInt8,(⟨k.toArray⟩:ByteArray).size=k.length:=λk=>by show k.toArray.size=_;simp
 have:=ztm ⟨x.1.toArray⟩ ⟨x.2.toArray⟩ (okS x.1) (okS x.2) (hid λh W hW=>zlk x.1 (by rw[sz] at h;exact h) W hW) (hid λh W hW=>zlk x.2 (by rw[sz] at h;exact h) W hW) w (hid hw)
 rw[sz,sz] at this
 exact this
def RowTx (p:Option Addr) (l:List (List UInt8×List UInt8)) (W:zA):Prop:=
 ∀i,i<l.length->∃b off,p=some ⟨b,off,none⟩/\W.cell? ⟨b,off+i*2,none⟩=some (St (ptOf l i).1)/\W.cell? ⟨b,off+i*2+1,none⟩=some (St (ptOf l i).2)
theorem RowTx.keep {p:Option Addr} {l:List (List UInt8×List UInt8)} {W W':zA} (h:RowTx p l W) (hc:CellsKept W W'):RowTx p l W':=λi hi=>let ⟨b,off,e,h1,h2⟩:=h i hi;⟨b,off,e,hc.cell h1,hc.cell h2⟩
def IdxP (w:zA) (n:Nat) (G:Nat->Prop) (e:Ending) (w':zA):Prop:=∃k:Int,e=.returned (.int .i64 k)/\((k= -1/\∀i,i<n->G i)\/(0<=k/\∃i,i<n/\¬G i))/\zB w.heap.size w w'
theorem IdxP.hit {w w':zA} {n:Nat} {G:Nat->Prop} {k:Nat} (hk:k<n) (h:¬G k) (hb:zB w.heap.size w w'):IdxP w n G (.returned (.int .i64 (k:Int))) w':=⟨k,rfl,.inr ⟨by omega,k,hk,h⟩,hb⟩
theorem IdxP.none {w w':zA} {n:Nat} {G:Nat->Prop} (h:∀i,i<n->G i) (hb:zB w.heap.size w w'):IdxP w n G (.returned (.int .i64 (-1))) w':=⟨-1,rfl,.inl ⟨rfl,h⟩,hb⟩
theorem zvt (p:Option Addr) (cap n:Nat) (l:List (List UInt8×List UInt8)) (hn:n=l.length) (hl:n<=5000) (G:Nat->Prop)
 (F:Hid (∀i,i<n->∀W:zA,Wd W->zC zF 37 #[.agg #[St (ptOf l i).1,St (ptOf l i).2]] W (BoolP W (G i))))
 (w:zA) (HW:Hid (Wd w)) (HP:Hid (RowTx p l w)):
 zC zF 71 #[.slice p n cap,.func (.func 37) #[] #[]] w (IdxP w n G):=by
 have HN:=hid hn;clear hn
 go_enter Tryz.func71,Tryz.ntmps71
 go_wp2
 go_loopw [8] (λi wr=>∃(k:Nat),k<=n/\i=.int .i64 (k:Int)/\Hid (∀i,i<k->G i)/\Hid (zB w.heap.size w wr))
  (λi _=>n-(zL i).toNat)
 case atStart=>exact⟨0,zR _,rfl,λi h=>by omega,zM _ _⟩
 case round=>
  obtain⟨k,hk,rfl,hG,hB⟩:=hrel
  by_cases hlt:k<n
  ·obtain⟨b,off,rfl,c0,c1⟩:=(HP.out.keep (zac hB.out)) k (by rw[<-HN.out];exact hlt)
   have HF:=hid (F.out k hlt wr (HW.out.below hB.out))
   generalize (ptOf l k).1=x at*
   generalize (ptOf l k).2=y at*
   go_wp2_with fail
   refine HF.out.mono ?_
   rintro e w2 ⟨t,rfl,ht,hb2⟩
   have hB2:=hid (hB.out.trans (hb2.mono hB.out.size))
   have HT:=hid ht;clear ht hb2 HF
   cases t
   ·go_wp2_with fail
    go_roundw
    case rel=>exact⟨k+1,by omega,by go_num,λi hi=>(by
     by_cases e:i=k
     ·subst e;exact HT.out.1 (by trivial)
     ·exact hG.out i (by omega)),hB2⟩
    case measure=>simp[zL];omega
   ·go_wp2_with fail
    go_ret
    exact IdxP.hit hlt (λh=>by have:=HT.out.2 h;simp at this) hB2.out
  ·have hkn:k=n:=by omega
   have HK:=hid hkn;clear hkn
   go_wp2_with fail
   go_ret
   exact IdxP.none (by rw[<-HK.out];exact hG.out) hB.out
theorem zqk (p:Option Addr) (cap n:Nat) (G:Nat->Prop) (w:zA)
 (F:Hid (zC zF 71 #[.slice p n cap,.func (.func 37) #[] #[]] w (IdxP w n G))):
 zC zF 36 #[.slice p n cap,.func (.func 37) #[] #[]] w (BoolP w (∀i,i<n->G i)):=by
 go_enter Tryz.func36,Tryz.ntmps36
 go_wp2_with fail
 refine F.out.mono ?_
 rintro e w1 ⟨k,rfl,hk,hB⟩
 rcases hk with⟨rfl,h⟩|⟨h0,i,hi,h⟩
 ·have HN:=hid h;clear h
  go_wp2_with fail
  go_ret
  exact BoolP.yes HN.out hB
 ·have HN:=hid (λh'=>h (h' i hi):¬ ∀i,i<n->G i);clear h
  go_wp2_with fail
  go_ret
  exact BoolP.no HN.out hB
def YesP (w:zA) (G:Prop) (e:Ending) (w':zA):Prop:=∃b:Bool,e=.returned (.bool b)/\(b=true↔G)/\zB w.heap.size w w'
theorem YesP.no {w w':zA} {G:Prop} (h:¬G) (hb:zB w.heap.size w w'):YesP w G (.returned (.bool false)) w':=⟨false,rfl,⟨λk=>by simp at k,λk=>absurd k h⟩,hb⟩
theorem YesP.yes {w w':zA} {G:Prop} (h:G) (hb:zB w.heap.size w w'):YesP w G (.returned (.bool true)) w':=⟨true,rfl,⟨λ_=>h,λ_=>rfl⟩,hb⟩
theorem zvu (p:Option Addr) (cap n:Nat) (G:Prop) (w:zA)
 (F:Hid (zC zF 36 #[.slice p n cap,.func (.func 37) #[] #[]] w (BoolP w G))):
 zC zF 15 #[.slice p n cap] w (YesP w G):=by
 go_enter Tryz.func15,Tryz.ntmps15
 go_wp2_with fail
 refine F.out.mono ?_
 rintro e w1 ⟨b,rfl,hb,hB⟩
 have HN:=hid hb;clear hb
 cases b
 ·go_wp2_with fail
  go_ret
  exact YesP.yes (HN.out.1 (by trivial)) hB
 ·go_wp2_with fail
  go_ret
  exact YesP.no (λh=>by have:=HN.out.2 h;simp at this) hB
theorem zm5 (p:Option Addr) (cap:Nat) (l:List (List UInt8×List UInt8)) (hl:l.length<=5000) (w:zA) (hw:Wd w) (hp:RowTx p l w):
 zC zF 15 #[.slice p l.length cap] w (YesP w (∀i,i<l.length->zlu (ptOf l i))):=
 zvu p cap l.length _ w (hid (zqk p cap l.length _ w (hid (zvt p cap l.length l rfl hl (λi=>zlu (ptOf l i)) (hid λi _ W hW=>zyc (ptOf l i) W hW) w (hid hw) (hid hp)))))
def OnlyP (w:zA) (P:Prop) (e:Ending) (w':zA):Prop:=∃b:Bool,e=.returned (.bool b)/\(b=true->P)/\zB w.heap.size w w'
theorem OnlyP.no {w w':zA} {P:Prop} (hb:zB w.heap.size w w'):OnlyP w P (.returned (.bool false)) w':=⟨false,rfl,λh=>(by cases h),hb⟩
theorem OnlyP.yes {w w':zA} {P:Prop} (h:P) (hb:zB w.heap.size w w'):OnlyP w P (.returned (.bool true)) w':=⟨true,rfl,λ_=>h,hb⟩
theorem zpm (p:Option Addr) (cap n:Nat) (hn:decide ((n:Int)<=10)=true) (G H:Prop) (w:zA)
 (S:Hid (zC zF 15 #[.slice p n cap] w (YesP w G)))
 (C:Hid (G->∀W:zA,zB w.heap.size w W->zC zF 16 #[.slice p n cap] W λe w'=>∃r:Int,e=.returned (.int .i64 r)/\(r=0->H)/\zB W.heap.size W w')):
 zC zF 4 #[.slice p n cap] w (OnlyP w H):=by
 go_enter Tryz.func4,Tryz.ntmps4
 go_wp2_with fail
 refine S.out.mono ?_
 rintro e w1 ⟨b,rfl,hb,hB⟩
 have HB:=hid hB;clear hB
 have HN:=hid hb;clear hb
 cases b
 ·go_wp2_with fail
  go_ret
  exact OnlyP.no HB.out
 ·have HC:=hid (C.out (HN.out.1 rfl) w1 HB.out)
  clear C HN
  go_wp2_with fail
  refine HC.out.mono ?_
  rintro e w2 ⟨r,rfl,hr,hb2⟩
  have HB2:=hid (HB.out.trans (hb2.mono HB.out.size));clear hb2
  have HR:=hid hr;clear hr
  by_cases h0:r=0
  ·have hrb:(r==0)=true:=by subst h0;rfl
   have HR0:=hid (HR.out h0)
   clear h0
   go_wp2_with fail
   go_ret
   exact OnlyP.yes HR0.out HB2.out
  ·have hrb:(r==0)=false:=by simpa using h0
   clear h0
   go_wp2_with fail
   go_ret
   exact OnlyP.no HB2.out
theorem zpn:∀(l:List (List UInt8×List UInt8)),(∀i,i<l.length->zlu (ptOf l i))->∃q:List Pt,l=txt q/\∀p∈q,szP p 12
 |[],_=>⟨[],rfl,λp h=>by cases h⟩
 |x::r,h=>by
  obtain⟨q,hq,hz⟩:=zpn r (λi hi=>h (i+1) (by simpa using hi))
  obtain⟨h1,h2,h3,h4⟩:zlu x:=h 0 (by simp)
  obtain⟨a,ha⟩:=(zlq _).1 h3
  obtain⟨b,hb⟩:=(zlq _).1 h4
  refine⟨⟨a,b⟩::q,?_,λp hp=>?_⟩
  ·rw[hq];show x::txt q=(numS a,numS b)::txt q;rw[<-ha,<-hb]
  ·rcases List.mem_cons.1 hp with rfl|hp
   ·exact⟨zih (by omega) (by rw[<-ha];exact h1),zih (by omega) (by rw[<-hb];exact h2)⟩
   ·exact hz p hp
theorem zuf {P:Pt->Prop} {q:List Pt} (h:∀p∈q,P p) (h0:P ⟨0,0⟩) (i:Nat):P (cor q i):=by
 unfold cor
 cases e:q[i%q.length]? with
 |none=>exact h0
 |some p=>exact h p (List.mem_of_getElem? e)
def zqn (l:List (List UInt8×List UInt8)):Prop:=∃q:List Pt,l=txt q/\(∀p∈q,szP p 12)/\zch q/\zbz q
theorem zug (p:Option Addr) (cap:Nat) (l:List (List UInt8×List UInt8)) (h3:3<=l.length) (hl:l.length<=10) (w:zA) (hw:Wd w) (hp:RowTx p l w):
 zC zF 4 #[.slice p l.length cap] w (OnlyP w (zqn l)):=by
 refine zpm p cap l.length (decide_eq_true (by omega)) _ _ w (hid (zm5 p cap l (by omega) w hw hp)) (hid λhg W hb=>?_)
 obtain⟨q,rfl,hz⟩:=zpn l hg
 have hz36:∀i,szP (cor q i) 36:=λi=>zuf (P:=λp=>szP p 36) (λp hp=>⟨(hz p hp).1.mono (by omega),(hz p hp).2.mono (by omega)⟩) ⟨zjb _ (by omega),zjb _ (by omega)⟩ i
 rw[za2] at h3 hl⊢
 refine(zyb p cap q h3 (by omega) hz36 W (hw.below hb) ?_).mono ?_
 ·intro i hi
  exact(hp.keep (zac hb)) i (by rw[za2];exact hi)
 ·rintro e w' ⟨r,rfl,hr,hb'⟩
  exact⟨r,rfl,λh=>⟨q,rfl,hz,hr.1 h⟩,hb'⟩
theorem zv0 (p:Option Addr) (cap n:Nat) (h:n<3) (w:zA):
 zC zF 16 #[.slice p n cap] w λe w'=>∃r:Int,e=.returned (.int .i64 r)/\(r=0->False)/\zB w.heap.size w w':=by
 have hn1:decide ((4096:Int)<(n:Int))=false:=decide_eq_false (by omega)
 have hn2:decide ((n:Int)<3)=true:=decide_eq_true (by omega)
 clear h
 go_enter Tryz.func16,Tryz.ntmps16
 go_wp2
 go_ret
 exact⟨_,rfl,by decide,zM _ _⟩
theorem zyk (p:Option Addr) (cap n:Nat) (h:10<n) (G:Prop) (w:zA):
 zC zF 4 #[.slice p n cap] w (OnlyP w G):=by
 have hn:decide ((n:Int)<=10)=false:=decide_eq_false (by omega)
 clear h
 go_enter Tryz.func4,Tryz.ntmps4
 go_wp2_with fail
 go_ret
 exact OnlyP.no (zM _ _)
theorem OnlyP.weak {w w':zA} {P Q:Prop} {e:Ending} (h:OnlyP w P e w') (k:P->Q):OnlyP w Q e w':=let ⟨b,h1,h2,h3⟩:=h;⟨b,h1,λe=>k (h2 e),h3⟩
theorem z0q (p:Option Addr) (cap:Nat) (l:List (List UInt8×List UInt8)) (w:zA) (hw:Wd w) (hp:RowTx p l w):
 zC zF 4 #[.slice p l.length cap] w (OnlyP w (zqn l/\3<=l.length/\l.length<=10)):=by
 by_cases h10:l.length<=10
 ·by_cases h3:3<=l.length
  ·refine(zug p cap l h3 h10 w hw hp).mono λe w' h=>h.weak λk=>⟨k,h3,h10⟩
  ·exact zpm p cap l.length (decide_eq_true (by omega)) _ _ w (hid (zm5 p cap l (by omega) w hw hp)) (hid λ_ W _=>(zv0 p cap l.length (by omega) W).mono λe w' ⟨r,h1,h2,h3⟩=>⟨r,h1,λh=>(h2 h).elim,h3⟩)
 ·exact zyk p cap l.length (by omega) _ w
end
end Go.Proofs.YtlaccnphhomdgaaGreatDoor
