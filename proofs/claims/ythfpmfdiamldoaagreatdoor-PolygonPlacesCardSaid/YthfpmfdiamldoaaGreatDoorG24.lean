/- kingpostref10.segments, where all lies on one line: the ends that lie on both segments, each once. -/
import Derived.Test.YthfpmfdiamldoaaGreatDoorG23
import Derived.Maps.AppendAt
set_option maxRecDepth 100000
set_option maxHeartbeats 8000000
open Go renaming World → zA, Calls → zC
open Go.RowKit renaming Below → zB, intOf → zL
open Go.Proofs.Tryz renaming prog → zF
open Go.World renaming alloc_heap_new → zG, size_alloc → zH
open Go.IntWalk renaming i64_in → zI
open Go.Joins renaming cell_of_block → zJ
open Go.RowKit.Below renaming refl → zM
open Nat renaming le_refl → zN, mod_lt → zP, mod_eq_of_lt → zQ, zero_le → zR
open List renaming getElem_mem → zY, getElem?_eq_getElem → yB
namespace Go.Proofs.YthfpmfdiamldoaaGreatDoor
open Go.RowKit Go.Shelf Lib Str Limb Geo
attribute [local go_sem] Oper.semAt_some
theorem z29:(Tryz.prog.info? 25).map (λi=>(i.zero,i.size,i.bytes))=some (some (.agg #[St [],St []]),2,32):=by kernel_rfl
def zhh:List (List UInt8×List UInt8)->List Value
 |[]=>[]
 |p::r=>St p.1::St p.2::zhh r
theorem zn6:∀(l:List (List UInt8×List UInt8)) (p:List UInt8×List UInt8),zhh (l++[p])=zhh l++[St p.1,St p.2]
 |[],_=>rfl
 |a::r,p=>by show St a.1::St a.2::zhh (r++[p])=_;rw[zn6 r p];rfl
theorem zsd:∀(l:List (List UInt8×List UInt8)) (k:Nat),k<l.length->(zhh l)[k*2]? =some (St (ptOf l k).1)/\(zhh l)[k*2+1]? =some (St (ptOf l k).2)
 |a::r,0,_=>⟨rfl,rfl⟩
 |a::r,k+1,h=>by
  have:=zsd r k (by simpa using h)
  rw[show(k+1)*2=k*2+1+1 by omega]
  exact this
def accT (ok:Nat->Bool) (x:Nat->List UInt8×List UInt8):Nat->List (List UInt8×List UInt8)
 |0=>[]
 |k+1=>if(ok k&&!(accT ok x k).contains (x k))=true then accT ok x k++[x k] else accT ok x k
theorem zg1 (ok:Nat->Bool) (x:Nat->List UInt8×List UInt8) (k:Nat):accT ok x (k+1)=if(ok k&&!(accT ok x k).contains (x k))=true then accT ok x k++[x k] else accT ok x k:=rfl
theorem zse (ok:Nat->Bool) (x:Nat->List UInt8×List UInt8):∀k,(accT ok x k).length<=k
 |0=>zN _
 |k+1=>by
  have:=zse ok x k
  rw[accT]
  split
  ·simp;exact this
  ·omega
theorem z0f (l:List (List UInt8×List UInt8)) (p:List UInt8×List UInt8) (j:Nat) (hj:j<l.length):(l.take (j+1)).contains p=((l.take j).contains p||decide (ptOf l j=p)):=by
 unfold ptOf
 rw[List.take_add_one,yB hj]
 simp only[List.contains_eq_mem,Option.toList_some,List.mem_append,List.mem_singleton,Option.getD_some,Bool.decide_or]
 congr 1
 rw[decide_eq_decide]
 exact eq_comm
structure LineS (w:zA) (x1 y1 x2 y2 x3 y3 x4 y4:List UInt8) (E:Nat) (X Y:Nat->List UInt8) (q:Option Addr) (m c:Nat) (acc:List (List UInt8×List UInt8)) (W:zA):Prop where
 four:FourS w x1 y1 x2 y2 x3 y3 x4 y4 W
 hE:w.heap.size+3<E
 ends:∀k,k<4->W.cell? ⟨E,k*2,none⟩=some (St (X k))/\W.cell? ⟨E,k*2+1,none⟩=some (St (Y k))
 own:W.ownsRow (w.heap.size+4) 25 2 (.slice q m c) acc.length (zhh acc)
 len:m=acc.length
 ne:(Value.slice q m c).ownBlock≠some E
theorem zya {w:zA} {base:Nat} {e:TypeId} {s:Nat} {v:Value} {n:Nat} {xs:List Value} (h:w.ownsRow base e s v n xs):∃q c,v=.slice q n c:=by
 rcases h.2 with⟨rfl,rfl⟩|⟨g,cap,cur,rfl,_⟩
 ·exact⟨none,0,rfl⟩
 ·exact⟨_,_,rfl⟩
section
variable {w:zA} {x1 y1 x2 y2 x3 y3 x4 y4:List UInt8} {E:Nat} {X Y:Nat->List UInt8} {q:Option Addr} {m c:Nat} {acc:List (List UInt8×List UInt8)} {W:zA}
theorem LineS.next {W':zA} (h:LineS w x1 y1 x2 y2 x3 y3 x4 y4 E X Y q m c acc W) (hb:qL W W'):LineS w x1 y1 x2 y2 x3 y3 x4 y4 E X Y q m c acc W':=
 have ck:=zac hb
 ⟨h.four.next hb,h.hE,λk hk=>⟨ck.cell (h.ends k hk).1,ck.cell (h.ends k hk).2⟩,zcj ck h.own,h.len,h.ne⟩
theorem LineS.grow {Z:zA} {v':Value} {x:List UInt8×List UInt8} (h:LineS w x1 y1 x2 y2 x3 y3 x4 y4 E X Y q m c acc W) (hZ:W.grownBy Z (Value.slice q m c).ownBlock)
 (hz:Z.ownsRow (w.heap.size+4) 25 2 v' (acc.length+1) (zhh acc++[St x.1,St x.2])) (hat:v'.ownBlock=(Value.slice q m c).ownBlock\/v'.ownBlock=some W.heap.size):
 ∃q' c',v'=.slice q' (acc.length+1) c'/\LineS w x1 y1 x2 y2 x3 y3 x4 y4 E X Y q' (acc.length+1) c' (acc++[x]) Z:=by
 obtain⟨q',c',rfl⟩:=zya hz
 have hlt:∀g,(Value.slice q m c).ownBlock=some g->w.heap.size+4<=g:=λg e=>(h.own.lt g e).1
 have hne:∀b,b<w.heap.size+4->some b≠(Value.slice q m c).ownBlock:=λb hb e=>by have:=hlt b e.symm;omega
 have hEw:E<W.heap.size:=zbe (h.ends 0 (by omega)).1
 have hl:=h.four.lt
 refine⟨q',c',rfl,⟨h.four.bel.grown hZ (by omega) (λg e=>by have:=hlt g e;omega),Nat.lt_of_lt_of_le hl hZ.size,?_,?_,?_,?_⟩,h.hE,λk hk=>⟨hZ.cell (h.ends k hk).1 (λe=>h.ne e.symm),hZ.cell (h.ends k hk).2 (λe=>h.ne e.symm)⟩,?_,by simp,?_⟩
 ·rw[hZ.block _ (by omega) (hne _ (by omega))];exact h.four.h1
 ·rw[hZ.block _ (by omega) (hne _ (by omega))];exact h.four.h2
 ·rw[hZ.block _ (by omega) (hne _ (by omega))];exact h.four.h3
 ·rw[hZ.block _ (by omega) (hne _ (by omega))];exact h.four.h4
 ·rw[zn6,List.length_append];exact hz
 ·rcases hat with e|e<;>rw[e]
  ·exact h.ne
  ·intro e2;injection e2 with e2;omega
theorem LineS.at (h:LineS w x1 y1 x2 y2 x3 y3 x4 y4 E X Y q m c acc W) (k:Nat) (hk:k<acc.length):∃g,q=some ⟨g,0,none⟩/\W.cell? ⟨g,k*2,none⟩=some (St (ptOf acc k).1)/\W.cell? ⟨g,k*2+1,none⟩=some (St (ptOf acc k).2):=by
 obtain⟨h1,h2⟩:=zsd acc k hk
 rcases h.own.2 with⟨_,e⟩|⟨g,cap,cur,e,_⟩
 ·omega
 ·cases e
  have hc:=h.own.cells (g:=g) rfl
  have ha:∀j,(⟨g,0,none⟩:Addr).add j=⟨g,j,none⟩:=λj=>by unfold Addr.add;split<;>simp_all
  exact⟨g,rfl,by rw[<-ha];exact hc _ _ h1,by rw[<-ha];exact hc _ _ h2⟩
end
structure RndS (w:zA) (x1 y1 x2 y2 x3 y3 x4 y4:List UInt8) (E:Nat) (X Y:Nat->List UInt8) (q:Option Addr) (m c:Nat) (acc:List (List UInt8×List UInt8)) (B:Nat) (x y:List UInt8) (W:zA):Prop where
 line:LineS w x1 y1 x2 y2 x3 y3 x4 y4 E X Y q m c acc W
 bx:W.heap[B]? =some (.cells #[St x,St y] 25 (0,0))
section
variable {w:zA} {x1 y1 x2 y2 x3 y3 x4 y4 x y:List UInt8} {E B:Nat} {X Y:Nat->List UInt8} {q:Option Addr} {m c:Nat} {acc:List (List UInt8×List UInt8)} {W:zA}
theorem RndS.next {W':zA} (h:RndS w x1 y1 x2 y2 x3 y3 x4 y4 E X Y q m c acc B x y W) (hb:qL W W'):RndS w x1 y1 x2 y2 x3 y3 x4 y4 E X Y q m c acc B x y W':=
 ⟨h.line.next hb,(hb.block _ (Array.getElem?_eq_some_iff.1 h.bx).1).trans h.bx⟩
theorem RndS.bel (h:RndS w x1 y1 x2 y2 x3 y3 x4 y4 E X Y q m c acc B x y W):qL w W:=h.line.four.bel
theorem RndS.cx (h:RndS w x1 y1 x2 y2 x3 y3 x4 y4 E X Y q m c acc B x y W):W.cell? ⟨B,0,none⟩=some (St x)/\W.cell? ⟨B,1,none⟩=some (St y):=by have:=h.bx;simp[World.cell?,this]
end
theorem zor (x1 y1 x2 y2 x3 y3 x4 y4:List UInt8) (X Y:Nat->List UInt8) (o1 o2:Nat->Bool) (hX:Hid (∀k,k<4->(#[St x1,St y1,St x2,St y2,St x3,St y3,St x4,St y4]:Array Value)[k*2]? =some (St (X k))/\(#[St x1,St y1,St x2,St y2,St x3,St y3,St x4,St y4]:Array Value)[k*2+1]? =some (St (Y k))))
 (T1:Hid (qK 38 #[.agg #[St x1,St y1],.agg #[St x2,St y2],.agg #[St x3,St y3]] (.int .i64 0)))
 (T2:Hid (qK 38 #[.agg #[St x1,St y1],.agg #[St x2,St y2],.agg #[St x4,St y4]] (.int .i64 0)))
 (T3:Hid (qK 38 #[.agg #[St x3,St y3],.agg #[St x4,St y4],.agg #[St x1,St y1]] (.int .i64 0)))
 (T4:Hid (qK 38 #[.agg #[St x3,St y3],.agg #[St x4,St y4],.agg #[St x2,St y2]] (.int .i64 0)))
 (O1:Hid (∀k,k<4->qK 39 #[.agg #[St x1,St y1],.agg #[St x2,St y2],.agg #[St (X k),St (Y k)]] (.bool (o1 k))))
 (O2:Hid (∀k,k<4->qK 39 #[.agg #[St x3,St y3],.agg #[St x4,St y4],.agg #[St (X k),St (Y k)]] (.bool (o2 k))))
 (U1:Hid (∀k,k<4->qK 38 #[.agg #[St x1,St y1],.agg #[St x2,St y2],.agg #[St (X k),St (Y k)]] (.int .i64 0)))
 (U2:Hid (∀k,k<4->qK 38 #[.agg #[St x3,St y3],.agg #[St x4,St y4],.agg #[St (X k),St (Y k)]] (.int .i64 0)))
 (w:zA) (HW:Hid (Wd w)):
 qJ 44 #[.agg #[St x1,St y1],.agg #[St x2,St y2],.agg #[St x3,St y3],.agg #[St x4,St y4]] w (.int .i64 (min 2 ((accT (λk=>o1 k&&o2 k) (λk=>(X k,Y k)) 4).length:Int))):=by
 have HI:=hid (FourS.start w x1 y1 x2 y2 x3 y3 x4 y4)
 go_enter Tryz.func44,Tryz.ntmps44
 go_wp2_with fail
 refine zbl (λ_ W=>FourS w x1 y1 x2 y2 x3 y3 x4 y4 W) (by kernel_rfl) (by kernel_rfl) (HI.out.next (zM _ _).drew) ?_
 refine qR (.agg #[St x1,St y1]) ?_ (hy:=λf W' hf h=>by obtain⟨i1,i2,i3,i4,i5,i6,i7,i8⟩:=h.cells';go_simp)
 simp only[zzQ]
 refine qR (.agg #[St x2,St y2]) ?_ (hy:=λf W' hf h=>by obtain⟨i1,i2,i3,i4,i5,i6,i7,i8⟩:=h.cells';go_simp)
 simp only[zzQ]
 refine qR (.agg #[St x3,St y3]) ?_ (hy:=λf W' hf h=>by obtain⟨i1,i2,i3,i4,i5,i6,i7,i8⟩:=h.cells';go_simp)
 simp only[zzQ]
 refine zar (.int .i64 0) (by rfl) (λf W' hf h C' hC'=>by
  go_simp
  refine(T1.out _ (HW.out.below h.bel)).mono ?_
  rintro e w' ⟨rfl,hb⟩
  exact⟨rfl,hC' _ (h.next hb)⟩) ?_
 try simp only[zzQ]
 refine qR (.agg #[St x1,St y1]) ?_ (hy:=λf W' hf h=>by obtain⟨i1,i2,i3,i4,i5,i6,i7,i8⟩:=h.cells';go_simp)
 simp only[zzQ]
 refine qR (.agg #[St x2,St y2]) ?_ (hy:=λf W' hf h=>by obtain⟨i1,i2,i3,i4,i5,i6,i7,i8⟩:=h.cells';go_simp)
 simp only[zzQ]
 refine qR (.agg #[St x4,St y4]) ?_ (hy:=λf W' hf h=>by obtain⟨i1,i2,i3,i4,i5,i6,i7,i8⟩:=h.cells';go_simp)
 simp only[zzQ]
 refine zar (.int .i64 0) (by rfl) (λf W' hf h C' hC'=>by
  go_simp
  refine(T2.out _ (HW.out.below h.bel)).mono ?_
  rintro e w' ⟨rfl,hb⟩
  exact⟨rfl,hC' _ (h.next hb)⟩) ?_
 try simp only[zzQ]
 refine qR (.agg #[St x3,St y3]) ?_ (hy:=λf W' hf h=>by obtain⟨i1,i2,i3,i4,i5,i6,i7,i8⟩:=h.cells';go_simp)
 simp only[zzQ]
 refine qR (.agg #[St x4,St y4]) ?_ (hy:=λf W' hf h=>by obtain⟨i1,i2,i3,i4,i5,i6,i7,i8⟩:=h.cells';go_simp)
 simp only[zzQ]
 refine qR (.agg #[St x1,St y1]) ?_ (hy:=λf W' hf h=>by obtain⟨i1,i2,i3,i4,i5,i6,i7,i8⟩:=h.cells';go_simp)
 simp only[zzQ]
 refine zar (.int .i64 0) (by rfl) (λf W' hf h C' hC'=>by
  go_simp
  refine(T3.out _ (HW.out.below h.bel)).mono ?_
  rintro e w' ⟨rfl,hb⟩
  exact⟨rfl,hC' _ (h.next hb)⟩) ?_
 try simp only[zzQ]
 refine qR (.agg #[St x3,St y3]) ?_ (hy:=λf W' hf h=>by obtain⟨i1,i2,i3,i4,i5,i6,i7,i8⟩:=h.cells';go_simp)
 simp only[zzQ]
 refine qR (.agg #[St x4,St y4]) ?_ (hy:=λf W' hf h=>by obtain⟨i1,i2,i3,i4,i5,i6,i7,i8⟩:=h.cells';go_simp)
 simp only[zzQ]
 refine qR (.agg #[St x2,St y2]) ?_ (hy:=λf W' hf h=>by obtain⟨i1,i2,i3,i4,i5,i6,i7,i8⟩:=h.cells';go_simp)
 simp only[zzQ]
 refine zar (.int .i64 0) (by rfl) (λf W' hf h C' hC'=>by
  go_simp
  refine(T4.out _ (HW.out.below h.bel)).mono ?_
  rintro e w' ⟨rfl,hb⟩
  exact⟨rfl,hC' _ (h.next hb)⟩) ?_
 try simp only[zzQ]
 refine qR (.int .i64 0) ?_
 simp only[zzQ]
 refine qR (.int .i64 0) ?_
 simp only[zzQ]
 refine qR (.int .i64 0) ?_
 simp only[zzQ]
 refine qR (.int .i64 0) ?_
 simp only[zzQ]
 refine zck λf W1 hf h1=>?_
 have HI1:=hid h1
 clear hf h1 HI
 obtain⟨i1,i2,i3,i4,i5,i6,i7,i8⟩:=HI1.out.cells'
 go_wp2_with fail
 clear i1 i2 i3 i4 i5 i6 i7 i8
 refine(T1.out _ (HW.out.below HI1.out.bel)).mono ?_
 rintro e W2 ⟨rfl,hb⟩
 have HI2:=hid (HI1.out.next hb)
 clear hb HI1
 obtain⟨i1,i2,i3,i4,i5,i6,i7,i8⟩:=HI2.out.cells'
 go_wp2_with fail
 clear i1 i2 i3 i4 i5 i6 i7 i8
 refine(T2.out _ (HW.out.below HI2.out.bel)).mono ?_
 rintro e W3 ⟨rfl,hb⟩
 have HI3:=hid (HI2.out.next hb)
 clear hb HI2
 obtain⟨i1,i2,i3,i4,i5,i6,i7,i8⟩:=HI3.out.cells'
 go_wp2_with fail
 clear i1 i2 i3 i4 i5 i6 i7 i8
 refine(T3.out _ (HW.out.below HI3.out.bel)).mono ?_
 rintro e W4 ⟨rfl,hb⟩
 have HI4:=hid (HI3.out.next hb)
 clear hb HI3
 obtain⟨i1,i2,i3,i4,i5,i6,i7,i8⟩:=HI4.out.cells'
 go_wp2_with fail
 clear i1 i2 i3 i4 i5 i6 i7 i8
 refine(T4.out _ (HW.out.below HI4.out.bel)).mono ?_
 rintro e W5 ⟨rfl,hb⟩
 have HI5:=hid (HI4.out.next hb)
 clear hb HI4
 have hba:qL W5 (W5.alloc (.cells #[] 25)):=(zM _ W5).alloc (zN _) _
 obtain⟨i1,i2,i3,i4,i5,i6,i7,i8⟩:=HI5.out.cells'
 obtain⟨j1,j2,j3,j4,j5,j6,j7,j8⟩:=(HI5.out.next hba).cells'
 clear hba
 go_wp2
 obtain⟨W6,hW6⟩:∃W6,W6=(W5.alloc (.cells #[] 25)).alloc (.cells #[St x1,St y1,St x2,St y2,St x3,St y3,St x4,St y4] 25):=⟨_,rfl⟩
 rw[<-hW6]
 clear i1 i2 i3 i4 i5 i6 i7 i8 j1 j2 j3 j4 j5 j6 j7 j8
 have hS6:LineS w x1 y1 x2 y2 x3 y3 x4 y4 (W5.heap.size+1) X Y (some ⟨W5.heap.size,0,none⟩) 0 0 [] W6:=by
  have h5:=HI5.out
  have hl:=h5.lt
  have hb:qL W5 ((W5.alloc (.cells #[] 25)).alloc (.cells #[St x1,St y1,St x2,St y2,St x3,St y3,St x4,St y4] 25)):=((zM _ W5).alloc (zN _) _).alloc (by simp) _
  have hn:=zG (W5.alloc (.cells #[] 25)) (.cells #[St x1,St y1,St x2,St y2,St x3,St y3,St x4,St y4] 25)
  rw[zH] at hn
  rw[hW6]
  refine⟨h5.next hb,by have:=h5.lt;omega,λk hk=>?_,(World.ownsRow_made W5 #[] 0 (show w.heap.size+4<=W5.heap.size by omega) (by decide) rfl).alloc _,rfl,?_⟩
  ·rw[zJ hn,zJ hn]
   exact hX.out k hk
  ·intro e;have e2:=Option.some.inj e;have e3:W5.heap.size=W5.heap.size+1:=e2;omega
 have HS6:=hid hS6
 clear hS6 hW6 HI5
 generalize W5.heap.size+1=E at*
 go_loopw [13,15] (λv i wr=>∃(k:Nat) (q:Option Addr) (c:Nat),k<=4/\i=.int .i64 (k:Int)/\v=.slice q (accT (λk=>o1 k&&o2 k) (λk=>(X k,Y k)) k).length c/\Hid (LineS w x1 y1 x2 y2 x3 y3 x4 y4 E X Y q (accT (λk=>o1 k&&o2 k) (λk=>(X k,Y k)) k).length c (accT (λk=>o1 k&&o2 k) (λk=>(X k,Y k)) k) wr))
  (λ_ i _=>4-(zL i).toNat)
 case atStart=>exact⟨0,_,0,by omega,rfl,rfl,HS6⟩
 case round=>
  obtain⟨k,q,c,hk,rfl,rfl,hS⟩:=hrel
  clear HS6
  by_cases hlt:k<4
  ·obtain⟨e0,e1⟩:=hS.out.ends k hlt
   have C1:=hid (O1.out k hlt);have C2:=hid (O2.out k hlt);have C3:=hid (U1.out k hlt);have C4:=hid (U2.out k hlt)
   have ha:=zg1 (λk=>o1 k&&o2 k) (λk=>(X k,Y k)) k
   have HA:=hid ha;clear ha
   obtain⟨acc,hacc⟩:∃acc,acc=accT (λk=>o1 k&&o2 k) (λk=>(X k,Y k)) k:=⟨_,rfl⟩
   have hal:acc.length<=4:=by rw[hacc];exact Nat.le_trans (zse _ _ k) hk
   rw[<-hacc] at hS HA⊢
   have HACC:=hid hacc;clear hacc
   generalize X k=x at*
   generalize Y k=y at*
   generalize o1 k=b1 at*
   generalize o2 k=b2 at*
   have hba:qL wr (wr.alloc (.cells #[St x,St y] 25)):=(zM _ wr).alloc (zN _) _
   have hx0:(wr.alloc (.cells #[St x,St y] 25)).heap[wr.heap.size]? =some (.cells #[St x,St y] 25 (0,0)):=zG _ _
   have R1:=hid (⟨hS.out.next hba,hx0⟩:RndS w x1 y1 x2 y2 x3 y3 x4 y4 E X Y q acc.length c acc wr.heap.size x y (wr.alloc (.cells #[St x,St y] 25)))
   obtain⟨i1,i2,i3,i4,i5,i6,i7,i8⟩:=R1.out.line.four.cells'
   clear hba hx0
   go_wp2_with fail
   clear i1 i2 i3 i4 i5 i6 i7 i8 e0 e1
   refine(C1.out _ (HW.out.below R1.out.bel)).mono ?_
   rintro e w2 ⟨rfl,hb2⟩
   have R2:=hid (R1.out.next hb2)
   clear hb2 R1 C1
   generalize wr.heap.size=B at*
   cases b1
   case false=>
    go_wp2_with fail
    go_roundw
    case rel=>exact⟨k+1,q,c,by omega,by go_num,by rw[HA.out,if_neg (by simp)],by rw[HA.out,if_neg (by simp)];exact hid R2.out.line⟩
    case measure=>simp[zL];omega
   obtain⟨i1,i2,i3,i4,i5,i6,i7,i8⟩:=R2.out.line.four.cells'
   obtain⟨e0,e1⟩:=R2.out.cx
   go_wp2_with fail
   clear i1 i2 i3 i4 i5 i6 i7 i8 e0 e1
   refine(C2.out _ (HW.out.below R2.out.bel)).mono ?_
   rintro e w3 ⟨rfl,hb3⟩
   have R3:=hid (R2.out.next hb3)
   clear hb3 R2 C2
   cases b2
   case false=>
    go_wp2_with fail
    go_roundw
    case rel=>exact⟨k+1,q,c,by omega,by go_num,by rw[HA.out,if_neg (by simp)],by rw[HA.out,if_neg (by simp)];exact hid R3.out.line⟩
    case measure=>simp[zL];omega
   obtain⟨i1,i2,i3,i4,i5,i6,i7,i8⟩:=R3.out.line.four.cells'
   obtain⟨e0,e1⟩:=R3.out.cx
   go_wp2_with fail
   clear i1 i2 i3 i4 i5 i6 i7 i8 e0 e1
   refine(C3.out _ (HW.out.below R3.out.bel)).mono ?_
   rintro e w4 ⟨rfl,hb4⟩
   have R4:=hid (R3.out.next hb4)
   clear hb4 R3 C3
   obtain⟨i1,i2,i3,i4,i5,i6,i7,i8⟩:=R4.out.line.four.cells'
   obtain⟨e0,e1⟩:=R4.out.cx
   go_wp2_with fail
   clear i1 i2 i3 i4 i5 i6 i7 i8 e0 e1
   refine(C4.out _ (HW.out.below R4.out.bel)).mono ?_
   rintro e w5 ⟨rfl,hb5⟩
   have R5:=hid (R4.out.next hb5)
   clear hb5 R4 C4
   go_wp2
   go_loopw [17,18] (λv i wr=>∃(j:Nat),j<=acc.length/\i=.int .i64 (j:Int)/\v=.bool ((acc.take j).contains (x,y))/\Hid (RndS w x1 y1 x2 y2 x3 y3 x4 y4 E X Y q acc.length c acc B x y wr))
    (λ_ i _=>acc.length-(zL i).toNat)
   case atStart=>exact⟨0,zR _,rfl,by simp,R5⟩
   case round=>
    obtain⟨j,hj,rfl,rfl,hR⟩:=hrel
    clear R5
    by_cases hjl:j<acc.length
    ·have HT:=hid (z0f acc (x,y) j hjl)
     obtain⟨g,rfl,g0,g1⟩:=hR.out.line.at j hjl
     obtain⟨e0,e1⟩:=hR.out.cx
     generalize ptOf acc j=pt at*
     obtain⟨px,py⟩:=pt
     generalize hC:(acc.take j).contains (x,y)=is at*
     have HC:=hid hC;clear hC
     dsimp only at g0 g1
     have hnx:∀n,RndS w x1 y1 x2 y2 x3 y3 x4 y4 E X Y (some ⟨g,0,none⟩) acc.length c acc B x y (wr.drewN n):=λn=>hR.out.next (zzD (zM _ _) _)
     have HNX:=hid hnx;clear hnx
     cases is
     case true=>
      go_wp2_with fail
      go_quiet (fail)
      go_wp2_with fail
      go_roundw
      case rel=>exact⟨j+1,by omega,by go_num,by rw[HT.out];rfl,hid (HNX.out _)⟩
      case measure=>simp[zL];omega
     case false=>
      by_cases hx:px=x
      ·by_cases hy:py=y
       ·subst hx;subst hy
        go_wp2_with fail
        go_quiet (fail)
        go_wp2_with fail
        go_roundw
        case rel=>exact⟨j+1,by omega,by go_num,by rw[HT.out];simp,hid (HNX.out _)⟩
        case measure=>simp[zL];omega
       ·have HT2:=hid (decide_eq_false (λe=>hy (Prod.ext_iff.1 e).2):decide ((px,py)=(x,y))=false)
        subst hx
        go_wp2_with fail
        go_quiet (fail)
        go_wp2_with fail
        go_roundw
        case rel=>exact⟨j+1,by omega,by go_num,by rw[HT.out,HT2.out];rfl,hid (HNX.out _)⟩
        case measure=>simp[zL];omega
      ·have HT2:=hid (decide_eq_false (λe=>hx (Prod.ext_iff.1 e).1):decide ((px,py)=(x,y))=false)
       go_wp2_with fail
       go_quiet (fail)
       go_wp2_with fail
       go_roundw
       case rel=>exact⟨j+1,by omega,by go_num,by rw[HT.out,HT2.out];rfl,hid (HNX.out _)⟩
       case measure=>simp[zL];omega
    ·obtain rfl:acc.length=j:=by omega
     rw[List.take_length]
     generalize hC:acc.contains (x,y)=is at*
     cases is
     case true=>
      go_wp2_with fail
      go_roundw
      case rel=>exact⟨k+1,q,c,by omega,by go_num,by rw[HA.out,if_neg (by simp)],by rw[HA.out,if_neg (by simp)];exact hid hR.out.line⟩
      case measure=>simp[zL];omega
     case false=>
      obtain⟨i0,hi,hz0,hz1,hz2⟩:=info_parts z29
      obtain⟨e0,e1⟩:=hR.out.cx
      have HD:=hid (⟨hi,hz0,hz1,hz2⟩:_/\_/\_/\_)
      clear hi hz0 hz1 hz2
      have hba:qL wr (wr.alloc (.cells #[St x,St y] 25)):=(zM _ wr).alloc (zN _) _
      have hla:=hR.out.line.next hba
      have HLA:=hid (⟨hla,(by have:=hla.four.lt;omega:w.heap.size+4<=(wr.alloc (.cells #[St x,St y] 25)).heap.size)⟩:_/\_)
      clear hba hla
      go_wp2_with (at_builtin;refine wpList_append_own_at _ rfl _ _ 22 rfl (w.heap.size+4) 25 i0 (.agg #[St [],St []]) 2 32 Tryz.underlying22 HD.out.1 HD.out.2.1 HD.out.2.2.1 HD.out.2.2.2 rfl (by decide) (.slice q acc.length c) acc.length (zhh acc) rfl HLA.out.1.own ⟨wr.heap.size,0,none⟩ 1 1 [St x,St y] rfl rfl (zoq _ _ _ _) (zm4 _ _) (by unfold maxLen;omega) (by omega) HLA.out.2 ?_)
      intro v' w1 hown' hgrow hnil hat
      obtain⟨q',c',rfl,hl'⟩:=HLA.out.1.grow (x:=(x,y)) hgrow hown' (by simpa using hat)
      have HL:=hid hl'
      clear hown' hgrow hnil hat hl' HLA
      go_wp2_with fail
      go_roundw
      case rel=>exact⟨k+1,q',c',by omega,by go_num,by rw[HA.out,if_pos (by simp)];simp,by rw[HA.out,if_pos (by simp),List.length_append];exact HL⟩
      case measure=>simp[zL];omega
  ·obtain rfl:4=k:=by omega
   have HB:=hid hS.out.four.bel
   clear hS
   generalize hr:(accT (λk=>o1 k&&o2 k) (λk=>(X k,Y k)) 4).length=r at*
   have HR:=hid hr;clear hr
   go_wp2_with fail
   go_ret
   exact⟨by rw[HR.out];rfl,HB.out⟩
def ChkP (w:zA) (l:List Pt) (e:Ending) (w':zA):Prop:=∃r:Int,e=.returned (.int .i64 r)/\(r=0↔zch l/\zbz l)/\zB w.heap.size w w'
theorem ChkP.yes {w w':zA} {l:List Pt} (h:zch l/\zbz l) (hb:qL w w'):ChkP w l (.returned (.int .i64 0)) w':=⟨0,rfl,⟨λ_=>h,λ_=>rfl⟩,hb⟩
theorem ChkP.no {w w':zA} {l:List Pt} {r:Int} (hr:r≠0) (h:¬(zch l/\zbz l)) (hb:qL w w'):ChkP w l (.returned (.int .i64 r)) w':=⟨r,rfl,⟨λk=>absurd k hr,λk=>absurd k h⟩,hb⟩
theorem zj8 (k n:Nat):(((k:Int)+1).tmod (n:Int))=(((k+1)%n:Nat):Int):=by
 rw[show((k:Int)+1)=((k+1:Nat):Int) by omega,Int.tmod_eq_emod_of_nonneg (by omega),<-Int.natCast_emod]
theorem zhi {p:Option Addr} {l:List Pt} {W:zA} (h:RowPts p l W) (k:Nat) (h0:0<l.length):∃b off,p=some ⟨b,off,none⟩/\W.cell? ⟨b,off+k%l.length*2,none⟩=some (St (numS (cor l k).x))/\W.cell? ⟨b,off+k%l.length*2+1,none⟩=some (St (numS (cor l k).y)):=by
 obtain⟨b,off,e,h1,h2⟩:=h (k%l.length) (zP _ h0)
 rw[zj4 l _ (zP _ h0),zt4] at h1 h2
 exact⟨b,off,e,h1,h2⟩
theorem zue {a b:Pt} (h:numS a.x=numS b.x/\numS a.y=numS b.y):a=b:=by
 obtain⟨a1,a2⟩:=a;obtain⟨b1,b2⟩:=b
 have h1:=zh0 h.1;have h2:=zh0 h.2
 simp at h1 h2;rw[h1,h2]
theorem zvs (n i k:Nat) (hik:i<k) (hk:k<n):(((k:Int)==(i:Int)+1)=true/\zea n i k=1)\/(((k:Int)==(i:Int)+1)=false/\((i:Int)==0)=false/\zea n i k=0)\/
 (((k:Int)==(i:Int)+1)=false/\((i:Int)==0)=true/\((k:Int)==(n:Int)-1)=true/\zea n i k=1)\/(((k:Int)==(i:Int)+1)=false/\((i:Int)==0)=true/\((k:Int)==(n:Int)-1)=false/\zea n i k=0):=by
 unfold zea
 by_cases h1:k=i+1
 ·exact .inl ⟨by rw[beq_iff_eq];omega,if_pos (.inl h1)⟩
 ·have b1:((k:Int)==(i:Int)+1)=false:=by rw[beq_eq_false_iff_ne];omega
  by_cases h2:i=0
  ·have b2:((i:Int)==0)=true:=by rw[beq_iff_eq];omega
   by_cases h3:k=n-1
   ·exact .inr (.inr (.inl ⟨b1,b2,by rw[beq_iff_eq];omega,if_pos (.inr ⟨h2,h3⟩)⟩))
   ·exact .inr (.inr (.inr ⟨b1,b2,by rw[beq_eq_false_iff_ne];omega,if_neg (λh=>h.elim h1 (λh=>h3 h.2))⟩))
  ·exact .inr (.inl ⟨b1,by rw[beq_eq_false_iff_ne];omega,if_neg (λh=>h.elim h1 (λh=>h2 h.1))⟩)
theorem ztl (p:Option Addr) (cap:Nat) (l:List Pt) (h3:3<=l.length) (hlen:l.length<=4096)
 (CP:Hid (∀k,k<l.length->qK 37 #[.agg #[St (numS (cor l k).x),St (numS (cor l k).y)]] (.int .i64 0)))
 (SG:Hid (∀i k,i<l.length->k<l.length->qK 44 #[.agg #[St (numS (cor l i).x),St (numS (cor l i).y)],.agg #[St (numS (cor l (i+1)).x),St (numS (cor l (i+1)).y)],.agg #[St (numS (cor l k).x),St (numS (cor l k).y)],.agg #[St (numS (cor l (k+1)).x),St (numS (cor l (k+1)).y)]] (.int .i64 (meet (cor l i) (cor l (i+1)) (cor l k) (cor l (k+1))))))
 (w:zA) (HW:Hid (Wd w)) (HP:Hid (RowPts p l w)):
 zC zF 36 #[.slice p l.length cap] w (ChkP w l):=by
 obtain⟨n,hn⟩:∃n,n=l.length:=⟨_,rfl⟩
 obtain⟨b,off,rfl,_⟩:=zhi HP.out 0 (by omega)
 have hc:=λ(W:zA) (hb:qL w W) (k:Nat)=>zhi (HP.out.keep (zac hb)) k (by omega)
 have HC:Hid (∀W:zA,qL w W->∀k,W.cell? ⟨b,off+k%n*2,none⟩=some (St (numS (cor l k).x))/\W.cell? ⟨b,off+k%n*2+1,none⟩=some (St (numS (cor l k).y))):=hid λW hb k=>by
  obtain⟨b',off',e,h1,h2⟩:=hc W hb k
  obtain⟨rfl,rfl⟩:b=b'/\off=off':=by simpa using e
  rw[hn];exact⟨h1,h2⟩
 rw[<-hn] at h3 hlen⊢
 have HN:=hid hn;clear hn hc HP
 have hn1:decide ((4096:Int)<(n:Int))=false:=decide_eq_false (by omega)
 have hn2:decide ((n:Int)<3)=false:=decide_eq_false (by omega)
 go_enter Tryz.func36,Tryz.ntmps36
 go_wp2
 go_loopw [4] (λi wr=>∃(k:Nat),k<=n/\i=.int .i64 (k:Int)/\Hid (qL w wr))
  (λi _=>n-(zL i).toNat)
 case atStart=>exact⟨0,zR _,rfl,zM _ _⟩
 case round=>
  clear hn1 hn2
  obtain⟨k,hk,rfl,hB⟩:=hrel
  by_cases hlt:k<n
  ·obtain⟨c0,c1⟩:=HC.out wr hB.out k
   have hcp:=hid (CP.out k (by rw[<-HN.out];exact hlt) wr (HW.out.below hB.out))
   rw[zQ hlt] at c0 c1
   generalize numS (cor l k).x=x at*
   generalize numS (cor l k).y=y at*
   go_wp2_with fail
   refine hcp.out.mono ?_
   rintro e w2 ⟨rfl,hb2⟩
   have hB2:=hid (hB.out.trans (hb2.mono hB.out.size))
   clear hb2 hcp
   go_wp2_with fail
   go_roundw
   case rel=>exact⟨k+1,by omega,by go_num,hB2⟩
   case measure=>simp[zL];omega
  ·obtain rfl:n=k:=by omega
   have hB0:=hid hB.out
   clear hB CP
   go_wp2_with fail
   go_loopw [6] (λi wr=>∃(k:Nat),k<=n/\i=.int .i64 (k:Int)/\Hid (qL w wr)/\Hid (∀i,i<k->cor l i≠cor l (i+1)))
    (λi _=>n-(zL i).toNat)
   case atStart=>exact⟨0,zR _,rfl,hB0,λi h=>absurd h (by omega)⟩
   case round=>
    obtain⟨k,hk,rfl,hB,hS⟩:=hrel
    clear hB0
    by_cases hlt:k<n
    ·obtain⟨c0,c1⟩:=HC.out wr hB.out k
     obtain⟨d0,d1⟩:=HC.out wr hB.out (k+1)
     have ht:=zj8 k n
     have hn0:¬n=0:=by omega
     have hwr:IntKind.i64.wrap ((k:Int)+1)=(k:Int)+1:=zI _ ⟨by omega,by omega⟩
     have hkk:(k+1)%n<n:=zP _ (by omega)
     rw[zQ hlt] at c0 c1
     generalize (k+1)%n=k' at*
     have HSM:Hid (numS (cor l k).x=numS (cor l (k+1)).x/\numS (cor l k).y=numS (cor l (k+1)).y->cor l k=cor l (k+1)):=hid zue
     have HDF:Hid (cor l k=cor l (k+1)->numS (cor l k).x=numS (cor l (k+1)).x/\numS (cor l k).y=numS (cor l (k+1)).y):=hid λe=>by rw[e];exact⟨rfl,rfl⟩
     have HQ:=hid λm=>hB.out.trans ((zzD (zM _ wr) m).mono hB.out.size)
     generalize numS (cor l k).x=x at*
     generalize numS (cor l k).y=y at*
     generalize numS (cor l (k+1)).x=x' at*
     generalize numS (cor l (k+1)).y=y' at*
     by_cases hx:x=x'
     ·by_cases hy:y=y'
      ·subst hx;subst hy
       have HE:=hid (HSM.out ⟨rfl,rfl⟩)
       go_wp2_with fail
       go_quiet (fail)
       go_wp2_with fail
       go_ret
       exact ChkP.no (by decide) (λh=>h.1 k (by rw[<-HN.out];exact hlt) HE.out) (HQ.out _)
      ·have HE:=hid (λi (hi:i<k+1)=>(by
        by_cases e:i=k
        ·subst e;exact λe=>hy (HDF.out e).2
        ·exact hS.out i (by omega):cor l i≠cor l (i+1)))
       subst hx
       go_wp2_with fail
       go_quiet (fail)
       go_wp2_with fail
       go_roundw
       case rel=>exact⟨k+1,by omega,by go_num,hid (HQ.out _),HE⟩
       case measure=>simp[zL];omega
     ·have HE:=hid (λi (hi:i<k+1)=>(by
       by_cases e:i=k
       ·subst e;exact λe=>hx (HDF.out e).1
       ·exact hS.out i (by omega):cor l i≠cor l (i+1)))
      go_wp2_with fail
      go_quiet (fail)
      go_wp2_with fail
      go_roundw
      case rel=>exact⟨k+1,by omega,by go_num,hid (HQ.out _),HE⟩
      case measure=>simp[zL];omega
    ·obtain rfl:n=k:=by omega
     have hS0:=hid (λi hi=>hS.out i (by rw[HN.out];exact hi):zch l)
     have hB0:=hid hB.out
     clear hB hS
     go_wp2_with fail
     go_loopw [7] (λi wr=>∃(k:Nat),k<=n/\i=.int .i64 (k:Int)/\Hid (qL w wr)/\Hid (∀i k',i<k->i<k'->k'<l.length->okS2 l i k'))
      (λi _=>n-(zL i).toNat)
     case atStart=>exact⟨0,zR _,rfl,hB0,λi k' h=>absurd h (by omega)⟩
     case round=>
      obtain⟨i,hi,rfl,hB,hS⟩:=hrel
      clear hB0
      by_cases hin:i<n
      ·have hwr:IntKind.i64.wrap ((i:Int)+1)=(i:Int)+1:=zI _ ⟨by omega,by omega⟩
       go_wp2_with fail
       go_loopw [8] (λv wr=>∃(k:Nat),i<k/\k<=n/\v=.int .i64 (k:Int)/\Hid (qL w wr)/\Hid (∀k',i<k'->k'<k->okS2 l i k'))
        (λv _=>n-(zL v).toNat)
       case atStart=>exact⟨i+1,by omega,by omega,by go_num,hB,λk' h h2=>absurd h2 (by omega)⟩
       case round=>
        obtain⟨k,hik,hk,rfl,hB4,hS4⟩:=hrel
        by_cases hkn:k<n
        ·have ht:=zj8 i n;have ht2:=zj8 k n
         have hn0:¬n=0:=by omega
         have hwk:IntKind.i64.wrap ((k:Int)+1)=(k:Int)+1:=zI _ ⟨by omega,by omega⟩
         have hwn:IntKind.i64.wrap ((n:Int)-1)=(n:Int)-1:=zI _ ⟨by omega,by omega⟩
         have hi':(i+1)%n<n:=zP _ (by omega)
         have hk':(k+1)%n<n:=zP _ (by omega)
         have hcs:=HC.out
         have HCi:=hid λW h=>hcs W h i
         have HCj:=hid λW h=>hcs W h (i+1)
         have HCk:=hid λW h=>hcs W h k
         have HCm:=hid λW h=>hcs W h (k+1)
         rw[zQ hin] at HCi
         rw[zQ hkn] at HCk
         have HSG:=hid (SG.out i k (by rw[<-HN.out];exact hin) (by rw[<-HN.out];exact hkn))
         clear hcs
         generalize (i+1)%n=i' at*
         generalize (k+1)%n=k' at*
         generalize hm:meet (cor l i) (cor l (i+1)) (cor l k) (cor l (k+1))=m at*
         have HM:=hid (show meet (cor l i) (cor l (i+1)) (cor l k) (cor l (k+1))=m from hm);clear hm
         generalize numS (cor l i).x=xi at HCi HSG
         generalize numS (cor l i).y=yi at HCi HSG
         generalize numS (cor l (i+1)).x=xj at HCj HSG
         generalize numS (cor l (i+1)).y=yj at HCj HSG
         generalize numS (cor l k).x=xk at HCk HSG
         generalize numS (cor l k).y=yk at HCk HSG
         generalize numS (cor l (k+1)).x=xm at HCm HSG
         generalize numS (cor l (k+1)).y=ym at HCm HSG
         obtain⟨bv,hbv⟩:∃bv,(m !=zea n i k)=bv:=⟨_,rfl⟩
         have HO:Hid (bv=false->okS2 l i k):=hid λe=>by
          have h1:meet (cor l i) (cor l (i+1)) (cor l k) (cor l (k+1))=m:=HM.out
          rw[e] at hbv;unfold okS2;rw[h1,<-HN.out];simpa using hbv
         have HF:Hid (bv=true->¬okS2 l i k):=hid λe=>by
          have h1:meet (cor l i) (cor l (i+1)) (cor l k) (cor l (k+1))=m:=HM.out
          rw[e] at hbv;unfold okS2;rw[h1,<-HN.out];simpa using hbv
         clear HC SG HM
         rcases zvs n i k hik hkn with⟨f1,hv⟩|⟨f1,f2,hv⟩|⟨f1,f2,f3,hv⟩|⟨f1,f2,f3,hv⟩
         all_goals
          rw[hv] at hbv
          have HV:=hid hbv
          clear hbv
          go_wp2_with fail
          refine zbl (λ_ W=>qL w W) (by kernel_rfl) (by kernel_rfl) hB4.out.drew ?_
          refine qR (.slice (some ⟨b,off,none⟩) n cap) ?_
          simp only[zzQ]
          refine qR (.int .i64 (i:Int)) ?_
          simp only[zzQ]
          refine qR (.pointer (some ⟨b,off+i*2,none⟩)) ?_
          simp only[zzQ]
          refine qR (.agg #[St xi,St yi]) ?_ (hy:=λf W' hf h=>by obtain⟨c0,c1⟩:=HCi.out _ h;go_simp)
          simp only[zzQ]
          refine qR (.slice (some ⟨b,off,none⟩) n cap) ?_
          simp only[zzQ]
          refine qR (.int .i64 (i:Int)) ?_
          simp only[zzQ]
          refine qR (.int .i64 ((i:Int)+1)) ?_
          simp only[zzQ]
          refine qR (.int .i64 (n:Int)) ?_
          simp only[zzQ]
          refine qR (.int .i64 (i':Int)) ?_
          simp only[zzQ]
          refine qR (.pointer (some ⟨b,off+i'*2,none⟩)) ?_
          simp only[zzQ]
          refine qR (.agg #[St xj,St yj]) ?_ (hy:=λf W' hf h=>by obtain⟨c0,c1⟩:=HCj.out _ h;go_simp)
          simp only[zzQ]
          refine qR (.slice (some ⟨b,off,none⟩) n cap) ?_
          simp only[zzQ]
          refine qR (.int .i64 (k:Int)) ?_
          simp only[zzQ]
          refine qR (.pointer (some ⟨b,off+k*2,none⟩)) ?_
          simp only[zzQ]
          refine qR (.agg #[St xk,St yk]) ?_ (hy:=λf W' hf h=>by obtain⟨c0,c1⟩:=HCk.out _ h;go_simp)
          simp only[zzQ]
          refine qR (.slice (some ⟨b,off,none⟩) n cap) ?_
          simp only[zzQ]
          refine qR (.int .i64 (k:Int)) ?_
          simp only[zzQ]
          refine qR (.int .i64 ((k:Int)+1)) ?_
          simp only[zzQ]
          refine qR (.int .i64 (n:Int)) ?_
          simp only[zzQ]
          refine qR (.int .i64 (k':Int)) ?_
          simp only[zzQ]
          refine qR (.pointer (some ⟨b,off+k'*2,none⟩)) ?_
          simp only[zzQ]
          refine qR (.agg #[St xm,St ym]) ?_ (hy:=λf W' hf h=>by obtain⟨c0,c1⟩:=HCm.out _ h;go_simp)
          simp only[zzQ]
          refine zar (.int .i64 m) (by rfl) (λf W' hf h C' hC'=>by
           go_simp
           refine(HSG.out _ (HW.out.below h)).mono ?_
           rintro e w' ⟨rfl,hb⟩
           exact⟨rfl,hC' _ (h.trans (hb.mono h.size))⟩) ?_
          try simp only[zzQ]
          refine qR (.int .i64 (zea n i k)) ?_
          simp only[zzQ]
          refine qR (.bool bv) ?_ (hy:=λf W' hf h=>by have h0:=HV.out;go_simp)
          simp only[zzQ]
          refine zck λf W5 hf h5=>?_
          have HB5:=hid h5
          clear hf h5
          cases bv
          case false=>
           go_wp2_with fail
           go_roundw
           case rel=>exact⟨k+1,by omega,by omega,by go_num,HB5,λk' h1 h2=>(by
            by_cases e:k'=k
            ·subst e;exact HO.out (by trivial)
            ·exact hS4.out k' h1 (by omega))⟩
           case measure=>simp[zL];omega
          case true=>
           go_wp2_with fail
           go_ret
           exact ChkP.no (by decide) (λh=>HF.out (by trivial) (h.2 i k hik (by rw[<-HN.out];exact hkn))) HB5.out
        ·obtain rfl:n=k:=by omega
         go_wp2_with fail
         go_roundw
         case rel=>exact⟨i+1,by omega,by go_num,hB4,λi' k' h1 h2 h3=>(by
          by_cases e:i'=i
          ·subst e;exact hS4.out k' h2 (by rw[HN.out];exact h3)
          ·exact hS.out i' k' (by omega) h2 h3)⟩
         case measure=>simp[zL];omega
      ·obtain rfl:n=i:=by omega
       have hS1:=hid (λi k h1 h2=>hS.out i k (by rw[HN.out];omega) h1 h2:zbz l)
       go_wp2_with fail
       go_ret
       exact ChkP.yes ⟨hS0.out,hS1.out⟩ hB.out
end Go.Proofs.YthfpmfdiamldoaaGreatDoor
namespace Go.Proofs.YthfpmfdiamldoaaGreatDoor
open Go.RowKit Go.Shelf Lib Str Limb Geo
def endP (a b c d:Pt) (k:Nat):Pt:=[a,b,c,d][k]?.getD a
theorem z0g {p q:Pt}:((numS p.x,numS p.y)=(numS q.x,numS q.y))↔p=q:=⟨λh=>zue ⟨(Prod.ext_iff.1 h).1,(Prod.ext_iff.1 h).2⟩,λh=>by rw[h]⟩
theorem z2f (l:List Pt) (p:Pt):(txt l).contains (numS p.x,numS p.y)=l.contains p:=by
 unfold txt
 rw[List.contains_eq_mem,List.contains_eq_mem,decide_eq_decide,List.mem_map]
 exact⟨λ⟨q,hq,e⟩=>z0g.1 e▸hq,λh=>⟨p,h,rfl⟩⟩
theorem z0h (P:Pt->Bool) (a b c d:Pt):(accT (λk=>P (endP a b c d k)) (λk=>(numS (endP a b c d k).x,numS (endP a b c d k).y)) 4).length=(uniq P [] [a,b,c,d]).length:=by
 have step:∀(acc:List Pt) (p:Pt),(if(P p&&!(txt acc).contains (numS p.x,numS p.y))=true then txt acc++[(numS p.x,numS p.y)] else txt acc)=txt (if(P p&&!acc.contains p)=true then acc++[p] else acc):=by
  intro acc p
  rw[z2f]
  split
  ·unfold txt;simp
  ·rfl
 have e:accT (λk=>P (endP a b c d k)) (λk=>(numS (endP a b c d k).x,numS (endP a b c d k).y)) 4=txt (uniq P [] [a,b,c,d]):=by
  rw[zg1,zg1,zg1,zg1]
  simp only[uniq]
  rw[show accT (λk=>P (endP a b c d k)) (λk=>(numS (endP a b c d k).x,numS (endP a b c d k).y)) 0=txt [] from rfl]
  rw[show endP a b c d 0=a from rfl,show endP a b c d 1=b from rfl,show endP a b c d 2=c from rfl,show endP a b c d 3=d from rfl]
  rw[step,step,step,step]
 rw[e,za2]
theorem z2g (a b c d:Pt) (k:Nat) (hk:0<k) (hk2:8*k+4<=300) (ha:szP a k) (hb:szP b k) (hc:szP c k) (hd:szP d k) (w:zA) (hw:Wd w):
 qJ 44 #[ptV a,ptV b,ptV c,ptV d] w (.int .i64 (meet a b c d)):=by
 by_cases h0:turn a b c=0/\turn a b d=0/\turn c d a=0/\turn c d b=0
 ·obtain⟨t1,t2,t3,t4⟩:=h0
  have he:∀j,j<4->szP (endP a b c d j) k/\turn a b (endP a b c d j)=0/\turn c d (endP a b c d j)=0:=by
   intro j hj
   match j,hj with
   |0,_=>exact⟨ha,zcz _ _,t3⟩
   |1,_=>exact⟨hb,zc8 _ _,t4⟩
   |2,_=>exact⟨hc,t1,zcz _ _⟩
   |3,_=>exact⟨hd,t2,zc8 _ _⟩
  have T:∀p q r:Pt,szP p k->szP q k->szP r k->turn p q r=0->qK 38 #[ptV p,ptV q,ptV r] (.int .i64 0):=λp q r hp hq hr h W hW=>by
   rw[<-h];exact zh8 p q r k hk hk2 hp hq hr W hW
  have hv:meet a b c d=min 2 ((accT (λk=>onB a b (endP a b c d k)&&onB c d (endP a b c d k)) (λk=>(numS (endP a b c d k).x,numS (endP a b c d k).y)) 4).length:Int):=by
   rw[z0h (λp=>onB a b p&&onB c d p),<-zmd]
   unfold znt
   rw[if_pos ⟨t1,t2,t3,t4⟩]
   congr 3
   have:∀(l acc:List Pt),(∀p∈l,turn a b p=0/\turn c d p=0)->uniq (λx=>decide (onR a b x)&&decide (onR c d x)&&decide (turn a b x=0)&&decide (turn c d x=0)) acc l=uniq (λp=>onB a b p&&onB c d p) acc l:=by
    intro l
    induction l with
    |nil=>intro acc _;rfl
    |cons x r ih=>
     intro acc h
     obtain⟨z1,z2⟩:=h x (by simp)
     have e1:onB a b x=decide (onR a b x):=by rw[Bool.eq_iff_iff,zoo,decide_eq_true_iff]
     have e2:onB c d x=decide (onR c d x):=by rw[Bool.eq_iff_iff,zoo,decide_eq_true_iff]
     rw[uniq,uniq,ih _ (λp hp=>h p (by simp[hp]))]
     simp only[e1,e2,z1,z2,decide_true,Bool.and_true]
   refine this _ _ λp hp=>?_
   simp at hp
   rcases hp with rfl|rfl|rfl|rfl
   ·exact(he 0 (by omega)).2
   ·exact(he 1 (by omega)).2
   ·exact(he 2 (by omega)).2
   ·exact(he 3 (by omega)).2
  rw[hv]
  exact zor _ _ _ _ _ _ _ _ (λk=>numS (endP a b c d k).x) (λk=>numS (endP a b c d k).y) (λk=>onB a b (endP a b c d k)) (λk=>onB c d (endP a b c d k))
   (hid λj hj=>by
     match j,hj with
     |0,_|1,_|2,_|3,_=>exact⟨rfl,rfl⟩)
   (hid λW hW=>T a b c ha hb hc t1 W hW) (hid λW hW=>T a b d ha hb hd t2 W hW) (hid λW hW=>T c d a hc hd ha t3 W hW) (hid λW hW=>T c d b hc hd hb t4 W hW)
   (hid λj hj W hW=>zjm a b (endP a b c d j) k hk hk2 ha hb (he j hj).1 W hW) (hid λj hj W hW=>zjm c d (endP a b c d j) k hk hk2 hc hd (he j hj).1 W hW)
   (hid λj hj W hW=>T a b (endP a b c d j) ha hb (he j hj).1 (he j hj).2.1 W hW) (hid λj hj W hW=>T c d (endP a b c d j) hc hd (he j hj).1 (he j hj).2.2 W hW) w (hid hw)
 ·exact z0a a b c d k hk hk2 ha hb hc hd h0 w hw
theorem zyb (p:Option Addr) (cap:Nat) (l:List Pt) (h3:3<=l.length) (hlen:l.length<=4096) (hz:∀i,szP (cor l i) 36) (w:zA) (hw:Wd w) (hp:RowPts p l w):
 zC zF 36 #[.slice p l.length cap] w (ChkP w l):=
 ztl p cap l h3 hlen (hid λk _ W hW=>zx1 (cor l k) (hz k) W hW) (hid λi k _ _ W hW=>z2g _ _ _ _ 36 (by omega) (by omega) (hz _) (hz _) (hz _) (hz _) W hW) w (hid hw) (hid hp)
end Go.Proofs.YthfpmfdiamldoaaGreatDoor
namespace Go.Proofs.YthfpmfdiamldoaaGreatDoor.Geo
theorem zh3 {a b c:Pt} (h:turn a b c≠0):meet a b b c=1:=by
 unfold meet
 rw[if_pos (.inr (.inl h)),if_pos]
 rw[zc8,zcz];simp
theorem zzm {a b c:Pt} (h:turn a b c=0) (h1:a≠b) (h2:b≠c) (h3:c≠a) (k1:meet a b b c=1) (k2:meet b c c a=1) (_:meet a b c a=1):False:=by
 have t1:turn b c a=0:=by rw[zj3];exact h
 have t2:turn c a b=0:=by rw[zj3];exact t1
 unfold meet at k1 k2
 rw[if_neg (by simp[zc8,zcz,h,t1])] at k1
 rw[if_neg (by simp[zc8,zcz,t1,t2])] at k2
 have o1:=zas a b;have o2:=zas b c;have o3:=zas c a
 have p1:=zas b a;have p2:=zas c b;have p3:=zas a c
 have s1:=zgw a;have s2:=zgw b;have s3:=zgw c
 have u1:∀{p q:Pt},p≠q->ordP p q≠0:=λ{p q} h e=>by have:=zas p q;grind
 have v1:=u1 h1;have v2:=u1 h2;have v3:=u1 h3
 unfold low high at k1 k2
 rcases o1 with⟨x1,o1⟩|⟨x1,o1⟩|⟨x1,o1⟩
 ·have q1:ordP b a=1:=by grind
  rcases o2 with⟨x2,o2⟩|⟨x2,o2⟩|⟨x2,o2⟩
  ·have q2:ordP c b=1:=by grind
   have q3:ordP a c= -1:=by grind
   have q4:ordP c a=1:=by grind
   first|(simp[o1,o2,q1,q2,s2] at k1;done)|(simp[o1,o2,q4,s3] at k2;done)
  ·exact absurd o2 v2
  ·have q2:ordP c b= -1:=by grind
   rcases o3 with⟨x3,o3⟩|⟨x3,o3⟩|⟨x3,o3⟩
   ·have q3:ordP a c=1:=by grind
    first|(simp[o1,o2,o3,s2] at k1;done)|(simp[o1,o2,q1,q2,q3,o3,s1,s2,s3] at k2;done)
   ·exact absurd o3 v3
   ·have q3:ordP a c= -1:=by grind
    first|(simp[o1,o2,q2,o3,s2] at k1;done)|(simp[o1,o2,q1,q2,q3,o3,s1,s2,s3] at k2;done)
 ·exact absurd o1 v1
 ·have q1:ordP b a= -1:=by grind
  rcases o2 with⟨x2,o2⟩|⟨x2,o2⟩|⟨x2,o2⟩
  ·have q2:ordP c b=1:=by grind
   rcases o3 with⟨x3,o3⟩|⟨x3,o3⟩|⟨x3,o3⟩
   ·have q3:ordP a c=1:=by grind
    first|(simp[o1,o2,o3,s2] at k1;done)|(simp[o1,o2,q1,q2,q3,o3,s1,s2,s3] at k2;done)
   ·exact absurd o3 v3
   ·have q3:ordP a c= -1:=by grind
    first|(simp[o1,o2,q1,o3,s2] at k1;done)|(simp[o1,o2,q1,q2,q3,o3,s1,s2,s3] at k2;done)
  ·exact absurd o2 v2
  ·have q2:ordP c b= -1:=by grind
   have q3:ordP a c=1:=by grind
   have q4:ordP c a= -1:=by grind
   first|(simp[o1,o2,q1,q2,s2] at k1;done)|(simp[o1,o2,q2,q4,s3] at k2;done)
theorem zt8 (a b c:Pt):(a≠b/\b≠c/\c≠a/\meet a b b c=1/\meet a b c a=1/\meet b c c a=1)↔turn a b c≠0:=by
 constructor
 ·rintro⟨h1,h2,h3,k1,k2,k3⟩ h
  exact zzm h h1 h2 h3 k1 k3 k2
 ·intro h
  have t1:turn b c a≠0:=by rw[zj3];exact h
  have t2:turn c a b≠0:=by rw[zj3];exact t1
  refine⟨λe=>h (by subst e;exact zo6 _ _),λe=>h (by subst e;exact zc8 _ _),λe=>h (by subst e;exact zcz _ _),zh3 h,?_,zh3 t1⟩
  rw[zo7];exact zh3 t2
end Go.Proofs.YthfpmfdiamldoaaGreatDoor.Geo
namespace Go.Proofs.YthfpmfdiamldoaaGreatDoor.Geo
theorem z33 {a b c d:Pt} (h1:turn a b c=0) (h2:turn a b d=0) (h3:turn c d a=0) (h4:turn c d b=0):meet a b c d=1-ordP (maxP (low a b) (low c d)) (minP (high a b) (high c d)):=by
 unfold meet
 rw[if_neg (by omega)]
 rfl
theorem z3t (p q:Pt):ordP q p= -ordP p q:=by have:=zas p q;have:=zas q p;grind
theorem z41 {p q:Pt} (h:p≠q):ordP p q= -1\/ordP p q=1:=by have:=zas p q;grind
end Go.Proofs.YthfpmfdiamldoaaGreatDoor.Geo
namespace Go.Proofs.YthfpmfdiamldoaaGreatDoor
open Go.RowKit Go.Shelf Lib Str Limb Geo
theorem z3r {l:List Pt} {k:Nat} (h:k<l.length):cor l k=l[k]:=by
 unfold cor;rw[zQ h,yB h];rfl
theorem z5k {a n:Nat} (h:a<n):(a+1)%n=if a+1=n then 0 else a+1:=by
 split
 ·rename_i e;rw[e,Nat.mod_self]
 ·exact zQ (by omega)
def z3q (l:List Pt):Prop:=zch l/\zbz l
theorem z38 (x:Pt) (r:List Pt) (k:Nat):cor (r++[x]) k=cor (x::r) (k+1):=by
 have hl:(r++[x]).length=r.length+1:=by simp
 have hl2:(x::r).length=r.length+1:=by simp
 unfold cor
 rw[hl,hl2]
 have hk:k%(r.length+1)<r.length+1:=zP _ (by omega)
 have e:(k+1)%(r.length+1)=(k%(r.length+1)+1)%(r.length+1):=by rw[Nat.add_mod,<-Nat.add_mod,Nat.mod_add_mod]
 rw[e]
 generalize k%(r.length+1)=a at*
 rw[z5k hk]
 by_cases h:a=r.length
 ·subst h;rw[if_pos rfl];simp
 ·rw[if_neg (by omega),List.getElem?_append_left (by omega),List.getElem?_cons_succ]
theorem z5l {l:List Pt} (h:zbz l) {i k:Nat} (hi:i<l.length) (hk:k<l.length) (hne:i≠k):meet (cor l i) (cor l (i+1)) (cor l k) (cor l (k+1))=if i<k then zea l.length i k else zea l.length k i:=by
 by_cases c:i<k
 ·rw[if_pos c];exact h i k c hk
 ·rw[if_neg c,zo7];exact h k i (by omega) hi
theorem z4i (l:List Pt) {k:Nat} (h:k<l.length):cor l.reverse k=cor l (l.length-1-k):=by
 rw[z3r (by simpa using h),z3r (by omega),List.getElem_reverse]
end Go.Proofs.YthfpmfdiamldoaaGreatDoor
namespace Go.Proofs.YthfpmfdiamldoaaGreatDoor
open Go.RowKit Go.Shelf Lib Str Limb Geo
attribute [local go_sem] Oper.semAt_some
theorem yad (p:Option Addr) (cap n:Nat) (l:List (List UInt8×List UInt8)) (hnl:l.length=n) (h3:3<=n) (hn:n<=4096) (G:Nat->Prop)
 (CP:Hid (∀i,i<n->∀W:zA,Wd W->zC zF 37 #[.agg #[St (ptOf l i).1,St (ptOf l i).2]] W λe w'=>∃r:Int,e=.returned (.int .i64 r)/\(r=0↔G i)/\zB W.heap.size W w'))
 (HG:Hid (¬ ∀i,i<n->G i)) (w:zA) (HW:Hid (Wd w)) (HP:Hid (RowTx p l w)):
 zC zF 36 #[.slice p n cap] w λe w'=>∃r:Int,e=.returned (.int .i64 r)/\r≠0/\zB w.heap.size w w':=by
 have HL:=hid hnl
 clear hnl
 have hn1:decide ((4096:Int)<(n:Int))=false:=decide_eq_false (by omega)
 have hn2:decide ((n:Int)<3)=false:=decide_eq_false (by omega)
 go_enter Tryz.func36,Tryz.ntmps36
 go_wp2
 go_loopw [4] (λi wr=>∃(k:Nat),k<=n/\i=.int .i64 (k:Int)/\Hid (qL w wr)/\Hid (∀i,i<k->G i))
  (λi _=>n-(zL i).toNat)
 case atStart=>exact⟨0,zR _,rfl,zM _ _,hid λi h=>by omega⟩
 case round=>
  clear hn1 hn2
  obtain⟨k,hk,rfl,hB,hG⟩:=hrel
  have hlt:k<n:=by
   rcases Nat.lt_or_ge k n with h|h
   ·exact h
   ·exact absurd (λi hi=>hG.out i (by omega)) HG.out
  obtain⟨b,off,rfl,c0,c1⟩:=(HP.out.keep (zac hB.out)) k (by rw[HL.out];exact hlt)
  have HCP:=hid (CP.out k hlt wr (HW.out.below hB.out))
  generalize (ptOf l k).1=x at*
  generalize (ptOf l k).2=y at*
  go_wp2_with fail
  refine HCP.out.mono ?_
  rintro e W2 ⟨r,rfl,hr,hb2⟩
  have hB2:=hid (hB.out.trans (hb2.mono hB.out.size))
  clear hb2 HCP hB
  by_cases h0:r=0
  ·subst h0
   have hG':=hid (show ∀i,i<k+1->G i from λi hi=>by
    by_cases e:i=k
    ·rw[e];exact hr.1 rfl
    ·exact hG.out i (by omega))
   clear hr hG
   go_wp2_with fail
   go_roundw
   case rel=>exact⟨k+1,by omega,by first|go_num|rfl,hB2,hG'⟩
   case measure=>simp[zL];omega
  ·have hr1:(r==0)=false:=beq_eq_false_iff_ne.2 h0
   have hr2:(r !=0)=true:=by rw[bne,hr1];rfl
   have HR:=hid (⟨h0,hB2.out⟩:_/\_)
   clear hr h0 hG hB2
   go_wp2_with fail
   go_ret
   exact⟨r,rfl,HR.out.1,HR.out.2⟩
def zm7 (l:List (List UInt8×List UInt8)):Prop:=∃q,l=txt q/\(∀a∈q,szP a 36)/\z3q q/\3<=q.length
theorem yae:∀(l:List (List UInt8×List UInt8)),(∀x∈l,zlw x.1 x.2)->∃q,l=txt q/\∀a∈q,szP a 36
 |[],_=>⟨[],rfl,λa h=>by cases h⟩
 |x::r,h=>by
  obtain⟨q,rfl,hq⟩:=yae r (λy hy=>h y (List.mem_cons_of_mem _ hy))
  obtain⟨p,e1,e2,hp⟩:=h x List.mem_cons_self
  refine⟨p::q,?_,λa ha=>?_⟩
  ·show x::txt q=(numS p.x,numS p.y)::txt q
   rw[<-e1,<-e2]
  ·rcases List.mem_cons.1 ha with rfl|ha
   ·exact hp
   ·exact hq a ha
theorem z9r {q:List Pt} (h3:3<=q.length) (hz:∀a∈q,szP a 36):zm7 (txt q)↔zch q/\zbz q:=by
 constructor
 ·rintro⟨q',e,_,hp,_⟩
  have:q'=q:=by
   have hi:∀a b:List Pt,txt a=txt b->a=b:=by
    intro a
    induction a with
    |nil=>intro b h;cases b with
     |nil=>rfl
     |cons y r=>simp[txt] at h
    |cons x s ih=>
     intro b h
     cases b with
     |nil=>simp[txt] at h
     |cons y r=>
      simp only[txt,List.map_cons,List.cons.injEq,Prod.mk.injEq] at h
      obtain⟨⟨h1,h2⟩,h3⟩:=h
      rw[ih r h3]
      obtain⟨a,b⟩:=x;obtain⟨c,d⟩:=y
      rw[show a=c from zh0 h1,show b=d from zh0 h2]
   exact(hi _ _ e).symm
  rw[<-this];exact hp
 ·intro h;exact⟨q,rfl,hz,h,h3⟩
theorem zu3 {l:List (List UInt8×List UInt8)} {i:Nat} (h:i<l.length):ptOf l i∈l:=by
 unfold ptOf;rw[yB h];exact zY _
def zsj (l:List (List UInt8×List UInt8)):Prop:=∀x∈l,x.1.length<=1000/\x.2.length<=1000
theorem yaf {l:List (List UInt8×List UInt8)} (h:¬ ∀i,i<l.length->zlw (ptOf l i).1 (ptOf l i).2):¬zm7 l:=by
 rintro⟨q,rfl,hz,_,_⟩
 refine h λi hi=>?_
 rw[za2] at hi
 rw[zj4 q i hi]
 exact⟨cor q i,rfl,rfl,by rw[z3r hi];exact hz _ (zY _)⟩
theorem yag {l:List (List UInt8×List UInt8)} (h:∀i,i<l.length->zlw (ptOf l i).1 (ptOf l i).2):∃q,l=txt q/\∀a∈q,szP a 36:=by
 refine yae l λx hx=>?_
 obtain⟨i,hi,rfl⟩:=List.getElem_of_mem hx
 have:=h i hi
 unfold ptOf at this
 rw[yB hi] at this
 exact this
theorem ya9 {l:List (List UInt8×List UInt8)} (h:l.length<3):¬zm7 l:=by
 rintro⟨q,rfl,_,_,h3⟩
 rw[za2] at h;omega
theorem zsk {q:List Pt} (h0:0<q.length) (hz:∀a∈q,szP a 36) (i:Nat):szP (cor q i) 36:=by
 rw[<-zt4,z3r (zP _ h0)]
 exact hz _ (zY _)
theorem zu4 (p:Option Addr) (cap:Nat) (l:List (List UInt8×List UInt8)) (hl:l.length<=4096) (hs:zsj l) (w:zA) (hw:Wd w) (hp:RowTx p l w):
 zC zF 18 #[.slice p l.length cap] w λe w'=>∃r:Int,e=.returned (.int .i64 r)/\(r=0↔zm7 l)/\zB w.heap.size w w':=by
 by_cases h3:l.length<3
 ·exact(ybl p cap l.length h3 w).mono λe w' ⟨r,h1,h2,h⟩=>⟨r,h1,⟨λk=>absurd k h2,λk=>absurd k (ya9 h3)⟩,h⟩
 ·by_cases hg:∀i,i<l.length->zlw (ptOf l i).1 (ptOf l i).2
  ·obtain⟨q,rfl,hz⟩:=yag hg
   rw[za2] at h3 hl⊢
   refine(zu9 p cap q (by omega) hl (zsk (by omega) hz) w hw (λi hi=>hp i (by rw[za2];exact hi))).mono ?_
   rintro e w' ⟨r,rfl,h,hb⟩
   refine⟨r,rfl,?_,hb⟩
   rw[z9r (by omega) hz]
   rcases h with⟨h,rfl⟩|⟨_,h,rfl⟩|⟨h1,h2,rfl⟩
   ·exact⟨λk=>(by cases k),λk=>absurd k.1 h⟩
   ·exact⟨λk=>(by cases k),λk=>absurd k.2 h⟩
   ·exact⟨λ_=>⟨h1,h2⟩,λ_=>rfl⟩
  ·refine(yac p cap l.length l rfl (by omega) hl (λi=>zlw (ptOf l i).1 (ptOf l i).2) (hid λi hi W hW=>zkd _ _ (hs _ (zu3 hi)).1 (hs _ (zu3 hi)).2 W hW) (hid hg) w (hid hw) (hid hp)).mono ?_
   exact λe w' ⟨r,h1,h2,h⟩=>⟨r,h1,⟨λk=>absurd k h2,λk=>absurd k (yaf hg)⟩,h⟩
theorem zhq (x y:List UInt8) (hx:x.length<=1000) (hy:y.length<=1000) (w:zA) (hw:Wd w):
 zC zF 37 #[.agg #[St x,St y]] w λe w'=>∃r:Int,e=.returned (.int .i64 r)/\(r=0↔zlw x y)/\zB w.heap.size w w':=by
 have sh:∀z:List UInt8,(∃q,z=numS q/\okQ q)->∀W:zA,Wd W->zC zF 86 #[St z] W (ShoP W (∃q,z=numS q/\sz q 36)):=λz ⟨q,e,hq⟩ W hW=>by
  subst e
  refine(zuk q hq W hW).mono ?_
  rintro e w' ⟨b,rfl,h,hb⟩
  refine⟨b,rfl,h.trans ⟨λk=>⟨q,rfl,z8y.1 k⟩,λ⟨q',e,k⟩=>?_⟩,hb⟩
  rw[zh0 e];exact z8y.2 k
 refine(zz9 x y _ _ _ _ (hid λW hW=>zuj x hx W hW) (hid λW hW=>zuj y hy W hW) (hid λh W hW=>sh x h W hW) (hid λh W hW=>sh y h W hW) w (hid hw)).mono ?_
 rintro e w' ⟨r,rfl,h,hb⟩
 refine⟨r,rfl,h.trans ⟨?_,?_⟩,hb⟩
 ·rintro⟨_,_,⟨a,e1,h1⟩,⟨b,e2,h2⟩⟩;exact⟨⟨a,b⟩,e1,e2,h1,h2⟩
 ·rintro⟨p,e1,e2,hz⟩;exact⟨⟨p.x,e1,zw2 hz.1⟩,⟨p.y,e2,zw2 hz.2⟩,⟨p.x,e1,hz.1⟩,⟨p.y,e2,hz.2⟩⟩
theorem yap (p:Option Addr) (cap n:Nat) (h:n<3) (w:zA):
 zC zF 36 #[.slice p n cap] w λe w'=>∃r:Int,e=.returned (.int .i64 r)/\r≠0/\zB w.heap.size w w':=by
 have hn1:decide ((4096:Int)<(n:Int))=false:=decide_eq_false (by omega)
 have hn2:decide ((n:Int)<3)=true:=decide_eq_true (by omega)
 clear h
 go_enter Tryz.func36,Tryz.ntmps36
 go_wp2
 go_ret
 exact⟨_,rfl,by decide,zM _ _⟩
theorem zu7 (p:Option Addr) (cap:Nat) (l:List (List UInt8×List UInt8)) (hl:l.length<=4096) (hs:zsj l) (w:zA) (hw:Wd w) (hp:RowTx p l w):
 zC zF 36 #[.slice p l.length cap] w λe w'=>∃r:Int,e=.returned (.int .i64 r)/\(r=0↔zm7 l)/\zB w.heap.size w w':=by
 by_cases h3:l.length<3
 ·exact(yap p cap l.length h3 w).mono λe w' ⟨r,h1,h2,h⟩=>⟨r,h1,⟨λk=>absurd k h2,λk=>absurd k (ya9 h3)⟩,h⟩
 ·by_cases hg:∀i,i<l.length->zlw (ptOf l i).1 (ptOf l i).2
  ·obtain⟨q,rfl,hz⟩:=yag hg
   rw[za2] at h3 hl⊢
   refine(zyb p cap q (by omega) hl (zsk (by omega) hz) w hw (λi hi=>hp i (by rw[za2];exact hi))).mono ?_
   rintro e w' ⟨r,rfl,h,hb⟩
   exact⟨r,rfl,h.trans (z9r (by omega) hz).symm,hb⟩
  ·refine(yad p cap l.length l rfl (by omega) hl (λi=>zlw (ptOf l i).1 (ptOf l i).2) (hid λi hi W hW=>zhq _ _ (hs _ (zu3 hi)).1 (hs _ (zu3 hi)).2 W hW) (hid hg) w (hid hw) (hid hp)).mono ?_
   exact λe w' ⟨r,h1,h2,h⟩=>⟨r,h1,⟨λk=>absurd k h2,λk=>absurd k (yaf hg)⟩,h⟩
structure PibS (w:zA) (x y:List UInt8) (W:zA):Prop where
 bel:qL w W
 pt:W.heap[w.heap.size]? =some (.cells #[St x,St y] 25 (0,0))
 r1:W.heap[w.heap.size+1]? =some (.cells #[.int .i64 0] 3 (0,0))
 r2:W.heap[w.heap.size+2]? =some (.cells #[.int .i64 0] 28 (0,0))
theorem PibS.next {w W W':zA} {x y:List UInt8} (h:PibS w x y W) (hb:qL W W'):PibS w x y W':=
 ⟨h.bel.trans (hb.mono h.bel.size),(hb.block _ (Array.getElem?_eq_some_iff.1 h.pt).1).trans h.pt,(hb.block _ (Array.getElem?_eq_some_iff.1 h.r1).1).trans h.r1,(hb.block _ (Array.getElem?_eq_some_iff.1 h.r2).1).trans h.r2⟩
theorem PibS.start (w:zA) (x y:List UInt8):PibS w x y (((w.alloc (.cells #[St x,St y] 25)).alloc (.cells #[.int .i64 0] 3)).alloc (.cells #[.int .i64 0] 28)):=by
 have s1:(w.alloc (.cells #[St x,St y] 25)).heap.size=w.heap.size+1:=zH _ _
 have s2:((w.alloc (.cells #[St x,St y] 25)).alloc (.cells #[.int .i64 0] 3)).heap.size=w.heap.size+2:=by rw[zH,s1]
 refine⟨(((zM _ w).alloc (zN _) _).alloc (by omega) _).alloc (by omega) _,?_,?_,?_⟩
 ·rw[Below.heap_alloc _ _ _ (by omega),Below.heap_alloc _ _ _ (by omega)];exact zG _ _
 ·rw[Below.heap_alloc _ _ _ (by omega)]
  have:=zG (w.alloc (.cells #[St x,St y] 25)) (.cells #[.int .i64 0] 3)
  rwa [s1] at this
 ·have:=zG ((w.alloc (.cells #[St x,St y] 25)).alloc (.cells #[.int .i64 0] 3)) (.cells #[.int .i64 0] 28)
  rwa [s2] at this
theorem PibS.cells {w W:zA} {x y:List UInt8} (h:PibS w x y W):(W.cell? ⟨w.heap.size,0,none⟩=some (St x)/\W.cell? ⟨w.heap.size,1,none⟩=some (St y))/\(W.cell? ⟨w.heap.size+1,0,none⟩=some (.int .i64 0)/\W.frozen? ⟨w.heap.size+1,0,none⟩=false)/\W.cell? ⟨w.heap.size+2,0,none⟩=some (.int .i64 0)/\W.frozen? ⟨w.heap.size+2,0,none⟩=false:=by
 refine⟨⟨by rw[zJ h.pt];rfl,by rw[zJ h.pt];rfl⟩,⟨by rw[zJ h.r1];rfl,?_⟩,by rw[zJ h.r2];rfl,?_⟩
 ·have:=h.r1;simp[World.frozen?,this]
 ·have:=h.r2;simp[World.frozen?,this]
theorem yaq (p:Option Addr) (cap n:Nat) (l:List (List UInt8×List UInt8)) (x y:List UInt8) (A B:Prop)
 (C:Hid (∀W:zA,Wd W->RowTx p l W->zC zF 18 #[.slice p n cap] W λe w'=>∃r:Int,e=.returned (.int .i64 r)/\(r=0↔A)/\zB W.heap.size W w'))
 (CP:Hid (∀W:zA,Wd W->zC zF 31 #[.agg #[St x,St y]] W λe w'=>∃r:Int,e=.returned (.int .i64 r)/\(r=0↔B)/\zB W.heap.size W w'))
 (HN:Hid (¬(A/\B))) (w:zA) (HW:Hid (Wd w)) (HP:Hid (RowTx p l w)):
 qJ 8 #[.slice p n cap,.agg #[St x,St y]] w (.tuple #[.int .i64 0,.int .i64 1]):=by
 obtain⟨W0,hW0⟩:∃W0,W0=((w.alloc (.cells #[St x,St y] 25)).alloc (.cells #[.int .i64 0] 3)).alloc (.cells #[.int .i64 0] 28):=⟨_,rfl⟩
 have HS:=hid (show PibS w x y W0 by rw[hW0];exact PibS.start w x y)
 have HCk:=hid (C.out W0 (HW.out.below HS.out.bel) (HP.out.keep (zac HS.out.bel)))
 have h9:((w.alloc (.cells #[St x,St y] 25)).alloc (.cells #[.int .i64 0] 3)).alloc (.cells #[.int .i64 0] 28)=W0:=hW0.symm
 have H9:=hid h9
 have ne:∀r:Int,r≠0->(r==0)=false/\(r !=0)=true:=λr hr=>⟨beq_eq_false_iff_ne.2 hr,by rw[bne,beq_eq_false_iff_ne.2 hr];rfl⟩
 have NE:=hid ne
 clear ne hW0 h9
 go_enter Tryz.func8,Tryz.ntmps8
 go_wp2_with fail
 simp only[H9.out]
 refine HCk.out.mono ?_
 rintro e w1 ⟨r,rfl,hr,hb1⟩
 have HS1:=hid (HS.out.next hb1)
 have HR:=hid hr
 clear hb1 HS HCk hr H9
 by_cases h0:r=0
 ·have HA:=hid (HR.out.1 h0)
  subst h0
  obtain⟨⟨c0,c1⟩,⟨d0,f0⟩,d1,f1⟩:=HS1.out.cells
  clear d0 f0 d1 f1
  go_wp2_with fail
  clear c0 c1
  refine(CP.out w1 (HW.out.below HS1.out.bel)).mono ?_
  rintro e w2 ⟨r,rfl,hr,hb2⟩
  have h0:r≠0:=λe=>HN.out ⟨HA.out,hr.1 e⟩
  obtain⟨e1,e2⟩:=NE.out r h0
  have HS2:=hid (HS1.out.next hb2)
  clear hb2 HS1 hr h0
  obtain⟨⟨c0,c1⟩,⟨d0,f0⟩,d1,f1⟩:=HS2.out.cells
  have hz:w.heap.size+2<w2.heap.size:=(Array.getElem?_eq_some_iff.1 HS2.out.r2).1
  have hz1:w.heap.size+1<w2.heap.size:=by omega
  clear c0 c1
  go_wp2_with fail
  refine bodyPost_ret (v:=.tuple #[.int .i64 0,.int .i64 1]) (by simp[results,Tryz.results8,go_sem,d0,d1]) rfl ⟨rfl,?_⟩
  exact(HS2.out.bel.setCell (by simp) _).setCell (by simp;omega) _
 ·obtain⟨e1,e2⟩:=NE.out r h0
  clear h0
  obtain⟨⟨c0,c1⟩,⟨d0,f0⟩,d1,f1⟩:=HS1.out.cells
  have hz:w.heap.size+2<w1.heap.size:=(Array.getElem?_eq_some_iff.1 HS1.out.r2).1
  have hz1:w.heap.size+1<w1.heap.size:=by omega
  clear c0 c1
  go_wp2_with fail
  refine bodyPost_ret (v:=.tuple #[.int .i64 0,.int .i64 1]) (by simp[results,Tryz.results8,go_sem,d0,d1]) rfl ⟨rfl,?_⟩
  exact(HS1.out.bel.setCell (by simp) _).setCell (by simp;omega) _
theorem ycb (p p':Option Addr) (cap cap' n n':Nat) (l m:List (List UInt8×List UInt8)) (A B:Prop)
 (C:Hid (∀W:zA,Wd W->RowTx p l W->zC zF 18 #[.slice p n cap] W λe w'=>∃r:Int,e=.returned (.int .i64 r)/\(r=0↔A)/\zB W.heap.size W w'))
 (C2:Hid (∀W:zA,Wd W->RowTx p' m W->zC zF 18 #[.slice p' n' cap'] W λe w'=>∃r:Int,e=.returned (.int .i64 r)/\(r=0↔B)/\zB W.heap.size W w'))
 (HN:Hid (¬(A/\B))) (w:zA) (HW:Hid (Wd w)) (HP:Hid (RowTx p l w)) (HP':Hid (RowTx p' m w)):
 qJ 10 #[.slice p n cap,.slice p' n' cap'] w (.tuple #[.bool false,.int .i64 1]):=by
 have ne:∀r:Int,r≠0->(r==0)=false/\(r !=0)=true:=λr hr=>⟨beq_eq_false_iff_ne.2 hr,by rw[bne,beq_eq_false_iff_ne.2 hr];rfl⟩
 have NE:=hid ne
 clear ne
 have HC:=hid (C.out w HW.out HP.out)
 go_enter Tryz.func10,Tryz.ntmps10
 go_wp2_with fail
 refine HC.out.mono ?_
 rintro e w1 ⟨r,rfl,hr,hb1⟩
 have HB1:=hid hb1
 have HR:=hid hr
 clear hb1 hr HC
 by_cases h0:r=0
 ·have HA:=hid (HR.out.1 h0)
  subst h0
  have HC:=hid (C2.out w1 (HW.out.below HB1.out) (HP'.out.keep (zac HB1.out)))
  go_wp2_with fail
  refine HC.out.mono ?_
  rintro e w2 ⟨r,rfl,hr,hb2⟩
  have h0:r≠0:=λe=>HN.out ⟨HA.out,hr.1 e⟩
  obtain⟨e1,e2⟩:=NE.out r h0
  have HB2:=qT HB1 hb2
  clear hb2 hr h0 HC
  go_wp2_with fail
  go_ret2
  exact⟨rfl,HB2.out⟩
 ·obtain⟨e1,e2⟩:=NE.out r h0
  clear h0
  go_wp2_with fail
  go_ret2
  exact⟨rfl,HB1.out⟩
end Go.Proofs.YthfpmfdiamldoaaGreatDoor
