/- polygon.meet, where all turns are 0. -/
import Derived.Test.YtbjomkfgicffhaaGreatDoorQ12
import Derived.Test.YtbjomkfgicffhaaGreatDoorQ05
import Derived.Lib.SmallJoins
set_option maxRecDepth 100000
set_option maxHeartbeats 8000000
namespace Go.Proofs.YtbjomkfgicffhaaGreatDoor
open Go.RowKit Go.Shelf Lib Str Limb Geo
attribute [local go_sem] Oper.semAt_some
structure FlatS (w:World) (x1 y1 x2 y2 x3 y3 x4 y4 lx ly hx hy:List UInt8) (b:Nat×Nat) (f:Nat->Bool) (W:World):Prop where
 base:MeetS w x1 y1 x2 y2 x3 y3 x4 y4 W
 g4:f 4=true->w.heap.size+1<b.1/\b.1<W.heap.size/\W.heap[b.1]? =some (.cells (if f 6=true then #[St lx,St ly] else #[St [],St []]) 24 (0,0))
 g5:f 5=true->w.heap.size+1<b.2/\b.2<W.heap.size/\W.heap[b.2]? =some (.cells (if f 7=true then #[St hx,St hy] else #[St [],St []]) 24 (0,0))
 ne:f 4=true->f 5=true->b.1≠b.2
section
variable {w W W':World} {x1 y1 x2 y2 x3 y3 x4 y4 lx ly hx hy:List UInt8} {b:Nat×Nat} {f g:Nat->Bool}
theorem FlatS.congr (h:FlatS w x1 y1 x2 y2 x3 y3 x4 y4 lx ly hx hy b f W) (e4:g 4=f 4) (e5:g 5=f 5) (e6:g 6=f 6) (e7:g 7=f 7):FlatS w x1 y1 x2 y2 x3 y3 x4 y4 lx ly hx hy b g W:=
 ⟨h.base,by rw[e4,e6];exact h.g4,by rw[e5,e7];exact h.g5,by rw[e4,e5];exact h.ne⟩
theorem FlatS.next (h:FlatS w x1 y1 x2 y2 x3 y3 x4 y4 lx ly hx hy b f W) (hb:Below W.heap.size W W'):FlatS w x1 y1 x2 y2 x3 y3 x4 y4 lx ly hx hy b f W':=
 ⟨h.base.next hb,λk=>⟨(h.g4 k).1,Nat.lt_of_lt_of_le (h.g4 k).2.1 hb.size,(hb.block _ (h.g4 k).2.1).trans (h.g4 k).2.2⟩,λk=>⟨(h.g5 k).1,Nat.lt_of_lt_of_le (h.g5 k).2.1 hb.size,(hb.block _ (h.g5 k).2.1).trans (h.g5 k).2.2⟩,h.ne⟩
theorem MeetS.put (h:MeetS w x1 y1 x2 y2 x3 y3 x4 y4 W) {p:Nat} (hp:w.heap.size+1<p) (o:Nat) (v:Value):MeetS w x1 y1 x2 y2 x3 y3 x4 y4 (W.setCell ⟨p,o,none⟩ v):=
 ⟨h.bel.setCell (by simp;omega) _,by simpa using h.lt,by rw[Below.heap_setCell _ _ _ _ (by simp;omega)];exact h.hs,by rw[Below.heap_setCell _ _ _ _ (by simp;omega)];exact h.ht⟩
theorem zjh {p:Nat} {a c u v:Value} {t:TypeId} (h:W.heap[p]? =some (.cells #[a,c] t (0,0))):((W.setCell ⟨p,0,none⟩ u).setCell ⟨p,1,none⟩ v).heap[p]? =some (.cells #[u,v] t (0,0)):=by
 rw[Go.Joins.block_setCell (Go.Joins.block_setCell h u) v];simp
theorem FlatS.new4 (h:FlatS w x1 y1 x2 y2 x3 y3 x4 y4 lx ly hx hy b f W) (h6:f 6=false) (_:g 4=true) (e5:g 5=f 5) (e6:g 6=f 6) (e7:g 7=f 7):FlatS w x1 y1 x2 y2 x3 y3 x4 y4 lx ly hx hy (W.heap.size,b.2) g (W.alloc (.cells #[St [],St []] 24)):=by
 have hl:=h.base.lt
 refine⟨h.base.next ((Below.refl _ W).alloc (Nat.le_refl _) _),λ_=>⟨hl,by simp,?_⟩,λk=>?_,λ_ k=>?_⟩
 ·rw[e6,h6,if_neg (by simp)];exact World.alloc_heap_new W _
 ·obtain⟨k1,k2,k3⟩:=h.g5 (e5▸k)
  refine⟨k1,by simp;omega,?_⟩
  rw[e7];exact(Below.heap_alloc _ _ _ k2).trans k3
 ·have:=(h.g5 (e5▸k)).2.1;simp;omega
theorem FlatS.new5 (h:FlatS w x1 y1 x2 y2 x3 y3 x4 y4 lx ly hx hy b f W) (h7:f 7=false) (_:g 5=true) (e4:g 4=f 4) (e6:g 6=f 6) (e7:g 7=f 7):FlatS w x1 y1 x2 y2 x3 y3 x4 y4 lx ly hx hy (b.1,W.heap.size) g (W.alloc (.cells #[St [],St []] 24)):=by
 have hl:=h.base.lt
 refine⟨h.base.next ((Below.refl _ W).alloc (Nat.le_refl _) _),λk=>?_,λ_=>⟨hl,by simp,?_⟩,λk _=>?_⟩
 ·obtain⟨k1,k2,k3⟩:=h.g4 (e4▸k)
  refine⟨k1,by simp;omega,?_⟩
  rw[e6];exact(Below.heap_alloc _ _ _ k2).trans k3
 ·rw[e7,h7,if_neg (by simp)];exact World.alloc_heap_new W _
 ·have:=(h.g4 (e4▸k)).2.1;simp;omega
theorem FlatS.put6 (h:FlatS w x1 y1 x2 y2 x3 y3 x4 y4 lx ly hx hy b f W) (h6:f 6=false) (h4:f 4=true) (h5:f 5=true) (_:g 4=f 4) (_:g 5=f 5) (g6:g 6=true) (e7:g 7=f 7):FlatS w x1 y1 x2 y2 x3 y3 x4 y4 lx ly hx hy b g ((W.setCell ⟨b.1,0,none⟩ (St lx)).setCell ⟨b.1,1,none⟩ (St ly)):=by
 have hne:=h.ne h4 h5
 obtain⟨k1,k2,k3⟩:=h.g4 h4
 obtain⟨l1,l2,l3⟩:=h.g5 h5
 refine⟨(h.base.put k1 _ _).put k1 _ _,λ_=>⟨k1,by simpa using k2,?_⟩,λ_=>⟨l1,by simpa using l2,?_⟩,λ_ _=>hne⟩
 ·rw[if_pos g6];rw[h6,if_neg (by simp)] at k3;exact zjh k3
 ·rw[e7,Below.heap_setCell _ _ _ _ (by simpa using Ne.symm hne),Below.heap_setCell _ _ _ _ (by simpa using Ne.symm hne)];exact l3
theorem FlatS.put7 (h:FlatS w x1 y1 x2 y2 x3 y3 x4 y4 lx ly hx hy b f W) (h7:f 7=false) (h4:f 4=true) (h5:f 5=true) (_:g 4=f 4) (_:g 5=f 5) (e6:g 6=f 6) (g7:g 7=true):FlatS w x1 y1 x2 y2 x3 y3 x4 y4 lx ly hx hy b g ((W.setCell ⟨b.2,0,none⟩ (St hx)).setCell ⟨b.2,1,none⟩ (St hy)):=by
 have hne:=h.ne h4 h5
 obtain⟨k1,k2,k3⟩:=h.g4 h4
 obtain⟨l1,l2,l3⟩:=h.g5 h5
 refine⟨(h.base.put l1 _ _).put l1 _ _,λ_=>⟨k1,by simpa using k2,?_⟩,λ_=>⟨l1,by simpa using l2,?_⟩,λ_ _=>hne⟩
 ·rw[e6,Below.heap_setCell _ _ _ _ (by simpa using hne),Below.heap_setCell _ _ _ _ (by simpa using hne)];exact k3
 ·rw[if_pos g7];rw[h7,if_neg (by simp)] at l3;exact zjh l3
end
def zno (x1 y1 x2 y2 lx ly hx hy:List UInt8) (b:Nat×Nat) (k:Nat):Value:=
 ([.agg #[St x1,St y1,St x2,St y2],.agg #[St lx,St ly],.agg #[St x1,St y1,St x2,St y2],.agg #[St hx,St hy],.pointer (some ⟨b.1,0,none⟩),.pointer (some ⟨b.2,0,none⟩)]:List Value).getD k undef
structure FlatE (w:World) (x1 y1 x2 y2 x3 y3 x4 y4 fx fy gx gy:List UInt8) (p q:Nat) (W:World):Prop where
 base:MeetS w x1 y1 x2 y2 x3 y3 x4 y4 W
 ne:p≠q
 p1:w.heap.size+1<p
 p2:p<W.heap.size
 p3:W.heap[p]? =some (.cells #[St fx,St fy] 24 (0,0))
 q1:w.heap.size+1<q
 q2:q<W.heap.size
 q3:W.heap[q]? =some (.cells #[St gx,St gy] 24 (0,0))
section
variable {w W W':World} {x1 y1 x2 y2 x3 y3 x4 y4 fx fy gx gy:List UInt8} {p q:Nat}
theorem FlatE.next (h:FlatE w x1 y1 x2 y2 x3 y3 x4 y4 fx fy gx gy p q W) (hb:Below W.heap.size W W'):FlatE w x1 y1 x2 y2 x3 y3 x4 y4 fx fy gx gy p q W':=
 ⟨h.base.next hb,h.ne,h.p1,Nat.lt_of_lt_of_le h.p2 hb.size,(hb.block _ h.p2).trans h.p3,h.q1,Nat.lt_of_lt_of_le h.q2 hb.size,(hb.block _ h.q2).trans h.q3⟩
theorem FlatE.putp (h:FlatE w x1 y1 x2 y2 x3 y3 x4 y4 fx fy gx gy p q W) (ux uy:List UInt8):FlatE w x1 y1 x2 y2 x3 y3 x4 y4 ux uy gx gy p q ((W.setCell ⟨p,0,none⟩ (St ux)).setCell ⟨p,1,none⟩ (St uy)):=
 ⟨(h.base.put h.p1 _ _).put h.p1 _ _,h.ne,h.p1,by simpa using h.p2,zjh h.p3,h.q1,by simpa using h.q2,by
   rw[Below.heap_setCell _ _ _ _ (by simpa using Ne.symm h.ne),Below.heap_setCell _ _ _ _ (by simpa using Ne.symm h.ne)];exact h.q3⟩
theorem FlatE.putq (h:FlatE w x1 y1 x2 y2 x3 y3 x4 y4 fx fy gx gy p q W) (ux uy:List UInt8):FlatE w x1 y1 x2 y2 x3 y3 x4 y4 fx fy ux uy p q ((W.setCell ⟨q,0,none⟩ (St ux)).setCell ⟨q,1,none⟩ (St uy)):=
 ⟨(h.base.put h.q1 _ _).put h.q1 _ _,h.ne,h.p1,by simpa using h.p2,by
   rw[Below.heap_setCell _ _ _ _ (by simpa using h.ne),Below.heap_setCell _ _ _ _ (by simpa using h.ne)];exact h.p3,h.q1,by simpa using h.q2,zjh h.q3⟩
theorem FlatE.c0 (h:FlatE w x1 y1 x2 y2 x3 y3 x4 y4 fx fy gx gy p q W):W.cell? ⟨p,0,none⟩=some (St fx):=by have:=h.p3;simp[World.cell?,this]
theorem FlatE.c1 (h:FlatE w x1 y1 x2 y2 x3 y3 x4 y4 fx fy gx gy p q W):W.cell? ⟨p,1,none⟩=some (St fy):=by have:=h.p3;simp[World.cell?,this]
theorem FlatE.d0 (h:FlatE w x1 y1 x2 y2 x3 y3 x4 y4 fx fy gx gy p q W):W.cell? ⟨q,0,none⟩=some (St gx):=by have:=h.q3;simp[World.cell?,this]
theorem FlatE.d1 (h:FlatE w x1 y1 x2 y2 x3 y3 x4 y4 fx fy gx gy p q W):W.cell? ⟨q,1,none⟩=some (St gy):=by have:=h.q3;simp[World.cell?,this]
theorem FlatE.fr (h:FlatE w x1 y1 x2 y2 x3 y3 x4 y4 fx fy gx gy p q W):W.frozen? ⟨p,0,none⟩=false/\W.frozen? ⟨p,1,none⟩=false/\W.frozen? ⟨q,0,none⟩=false/\W.frozen? ⟨q,1,none⟩=false:=by have:=h.q3;have:=h.p3;simp[World.frozen?, *]
end
theorem zw1 (x1 y1 x2 y2 x3 y3 x4 y4:List UInt8) (lx ly hx hy ax ay bx by':List UInt8) (n1 n2 n3:Int) (c1 c2:Bool) (h1:decide ((0:Int)<n1)=c1) (h2:decide (n2<(0:Int))=c2) (hn3: -1<=n3/\n3<=1)
 (TA:Hid (∀W:World,Wd W->Calls Tryz.prog 45 #[.agg #[St x1,St y1],.agg #[St x2,St y2],.agg #[St x3,St y3]] W λe w'=>e=.returned (.int .i64 0)/\Below W.heap.size W w'))
 (TB:Hid (∀W:World,Wd W->Calls Tryz.prog 45 #[.agg #[St x1,St y1],.agg #[St x2,St y2],.agg #[St x4,St y4]] W λe w'=>e=.returned (.int .i64 0)/\Below W.heap.size W w'))
 (TC:Hid (∀W:World,Wd W->Calls Tryz.prog 45 #[.agg #[St x3,St y3],.agg #[St x4,St y4],.agg #[St x1,St y1]] W λe w'=>e=.returned (.int .i64 0)/\Below W.heap.size W w'))
 (TD:Hid (∀W:World,Wd W->Calls Tryz.prog 45 #[.agg #[St x3,St y3],.agg #[St x4,St y4],.agg #[St x2,St y2]] W λe w'=>e=.returned (.int .i64 0)/\Below W.heap.size W w'))
 (LS:Hid (∀W:World,Wd W->Calls Tryz.prog 81 #[.agg #[St x1,St y1,St x2,St y2]] W λe w'=>e=.returned (.agg #[St lx,St ly])/\Below W.heap.size W w'))
 (HS:Hid (∀W:World,Wd W->Calls Tryz.prog 82 #[.agg #[St x1,St y1,St x2,St y2]] W λe w'=>e=.returned (.agg #[St hx,St hy])/\Below W.heap.size W w'))
 (LT:Hid (∀W:World,Wd W->Calls Tryz.prog 81 #[.agg #[St x3,St y3,St x4,St y4]] W λe w'=>e=.returned (.agg #[St ax,St ay])/\Below W.heap.size W w'))
 (HT:Hid (∀W:World,Wd W->Calls Tryz.prog 82 #[.agg #[St x3,St y3,St x4,St y4]] W λe w'=>e=.returned (.agg #[St bx,St by'])/\Below W.heap.size W w'))
 (O1:Hid (∀W:World,Wd W->Calls Tryz.prog 83 #[.agg #[St ax,St ay],.agg #[St lx,St ly]] W λe w'=>e=.returned (.int .i64 n1)/\Below W.heap.size W w'))
 (O2:Hid (∀W:World,Wd W->Calls Tryz.prog 83 #[.agg #[St bx,St by'],.agg #[St hx,St hy]] W λe w'=>e=.returned (.int .i64 n2)/\Below W.heap.size W w'))
 (O3:Hid (∀W:World,Wd W->Calls Tryz.prog 83 #[.agg (if c1 then #[St ax,St ay] else #[St lx,St ly]),.agg (if c2 then #[St bx,St by'] else #[St hx,St hy])] W λe w'=>e=.returned (.int .i64 n3)/\Below W.heap.size W w'))
 (w:World) (HW:Hid (Wd w)):
 Calls Tryz.prog 43 #[.agg #[St x1,St y1,St x2,St y2],.agg #[St x3,St y3,St x4,St y4]] w λe w'=>e=.returned (.int .i64 (1-n3))/\Below w.heap.size w w':=by
 have hinit:MeetS w x1 y1 x2 y2 x3 y3 x4 y4 ((w.alloc (.cells #[St x1,St y1,St x2,St y2] 71)).alloc (.cells #[St x3,St y3,St x4,St y4] 71)):=by
  have e1:=World.alloc_heap_new w (.cells #[St x1,St y1,St x2,St y2] 71 (0,0))
  have e2:=World.alloc_heap_new (w.alloc (.cells #[St x1,St y1,St x2,St y2] 71)) (.cells #[St x3,St y3,St x4,St y4] 71 (0,0))
  simp only[World.size_alloc] at e2
  refine⟨((Below.refl _ w).alloc (Nat.le_refl _) _).alloc (by simp) _,by simp,?_,e2⟩
  exact(Below.heap_alloc _ _ _ (by simp only[World.size_alloc];omega)).trans e1
 have HI:=hid hinit;clear hinit
 go_enter Tryz.func43,Tryz.ntmps43
 go_wp2_with fail
 refine zbl (λ_ W=>MeetS w x1 y1 x2 y2 x3 y3 x4 y4 W) (by kernel_rfl) (by kernel_rfl) (by have h:=HI.out;exact⟨h.bel.drew,h.lt,h.hs,h.ht⟩) ?_
 refine zab (v:=.pointer (some ⟨w.heap.size,0,none⟩)) (by rfl) (λf W' h=>h) (λf W' hf h=>by go_simp) ?_
 try simp only[Act.put,zzA,zzB,zzC]
 refine zab (v:=.agg #[St x1,St y1]) (by rfl) (λf W' h=>h) (λf W' hf h=>by have h0:=h.s0;have h1:=h.s1;go_simp) ?_
 try simp only[Act.put,zzA,zzB,zzC]
 refine zab (v:=.pointer (some ⟨w.heap.size,2,none⟩)) (by rfl) (λf W' h=>h) (λf W' hf h=>by go_simp) ?_
 try simp only[Act.put,zzA,zzB,zzC]
 refine zab (v:=.agg #[St x2,St y2]) (by rfl) (λf W' h=>h) (λf W' hf h=>by have h0:=h.s2;have h1:=h.s3;go_simp) ?_
 try simp only[Act.put,zzA,zzB,zzC]
 refine zab (v:=.pointer (some ⟨w.heap.size+1,0,none⟩)) (by rfl) (λf W' h=>h) (λf W' hf h=>by go_simp) ?_
 try simp only[Act.put,zzA,zzB,zzC]
 refine zab (v:=.agg #[St x3,St y3]) (by rfl) (λf W' h=>h) (λf W' hf h=>by have h0:=h.t0;have h1:=h.t1;go_simp) ?_
 try simp only[Act.put,zzA,zzB,zzC]
 refine zar (.int .i64 0) (by rfl) (λf W' hf h C' hC'=>by
  go_simp
  refine(TA.out _ (HW.out.below h.bel)).mono ?_
  rintro e w' ⟨rfl,hb⟩
  exact⟨rfl,hC' _ (h.next hb)⟩) ?_
 try simp only[Act.put,zzA,zzB,zzC]
 refine zab (v:=.pointer (some ⟨w.heap.size,0,none⟩)) (by rfl) (λf W' h=>h) (λf W' hf h=>by go_simp) ?_
 try simp only[Act.put,zzA,zzB,zzC]
 refine zab (v:=.agg #[St x1,St y1]) (by rfl) (λf W' h=>h) (λf W' hf h=>by have h0:=h.s0;have h1:=h.s1;go_simp) ?_
 try simp only[Act.put,zzA,zzB,zzC]
 refine zab (v:=.pointer (some ⟨w.heap.size,2,none⟩)) (by rfl) (λf W' h=>h) (λf W' hf h=>by go_simp) ?_
 try simp only[Act.put,zzA,zzB,zzC]
 refine zab (v:=.agg #[St x2,St y2]) (by rfl) (λf W' h=>h) (λf W' hf h=>by have h0:=h.s2;have h1:=h.s3;go_simp) ?_
 try simp only[Act.put,zzA,zzB,zzC]
 refine zab (v:=.pointer (some ⟨w.heap.size+1,2,none⟩)) (by rfl) (λf W' h=>h) (λf W' hf h=>by go_simp) ?_
 try simp only[Act.put,zzA,zzB,zzC]
 refine zab (v:=.agg #[St x4,St y4]) (by rfl) (λf W' h=>h) (λf W' hf h=>by have h0:=h.t2;have h1:=h.t3;go_simp) ?_
 try simp only[Act.put,zzA,zzB,zzC]
 refine zar (.int .i64 0) (by rfl) (λf W' hf h C' hC'=>by
  go_simp
  refine(TB.out _ (HW.out.below h.bel)).mono ?_
  rintro e w' ⟨rfl,hb⟩
  exact⟨rfl,hC' _ (h.next hb)⟩) ?_
 try simp only[Act.put,zzA,zzB,zzC]
 refine zab (v:=.int .i64 0) (by rfl) (λf W' h=>h) (λf W' hf h=>by go_simp) ?_
 try simp only[Act.put,zzA,zzB,zzC]
 refine zab (v:=.int .i64 0) (by rfl) (λf W' h=>h) (λf W' hf h=>by go_simp) ?_
 try simp only[Act.put,zzA,zzB,zzC]
 refine zck λf W1 hf h1=>?_
 clear hf f
 have H1:=hid h1;clear h1
 go_wp2_with fail
 refine zbl (λ_ W=>MeetS w x1 y1 x2 y2 x3 y3 x4 y4 W) (by kernel_rfl) (by kernel_rfl) (by have h:=H1.out;exact⟨h.bel.drew,h.lt,h.hs,h.ht⟩) ?_
 refine zab (v:=.pointer (some ⟨w.heap.size+1,0,none⟩)) (by rfl) (λf W' h=>h) (λf W' hf h=>by go_simp) ?_
 try simp only[Act.put,zzA,zzB,zzC]
 refine zab (v:=.agg #[St x3,St y3]) (by rfl) (λf W' h=>h) (λf W' hf h=>by have h0:=h.t0;have h1:=h.t1;go_simp) ?_
 try simp only[Act.put,zzA,zzB,zzC]
 refine zab (v:=.pointer (some ⟨w.heap.size+1,2,none⟩)) (by rfl) (λf W' h=>h) (λf W' hf h=>by go_simp) ?_
 try simp only[Act.put,zzA,zzB,zzC]
 refine zab (v:=.agg #[St x4,St y4]) (by rfl) (λf W' h=>h) (λf W' hf h=>by have h0:=h.t2;have h1:=h.t3;go_simp) ?_
 try simp only[Act.put,zzA,zzB,zzC]
 refine zab (v:=.pointer (some ⟨w.heap.size,0,none⟩)) (by rfl) (λf W' h=>h) (λf W' hf h=>by go_simp) ?_
 try simp only[Act.put,zzA,zzB,zzC]
 refine zab (v:=.agg #[St x1,St y1]) (by rfl) (λf W' h=>h) (λf W' hf h=>by have h0:=h.s0;have h1:=h.s1;go_simp) ?_
 try simp only[Act.put,zzA,zzB,zzC]
 refine zar (.int .i64 0) (by rfl) (λf W' hf h C' hC'=>by
  go_simp
  refine(TC.out _ (HW.out.below h.bel)).mono ?_
  rintro e w' ⟨rfl,hb⟩
  exact⟨rfl,hC' _ (h.next hb)⟩) ?_
 try simp only[Act.put,zzA,zzB,zzC]
 refine zab (v:=.pointer (some ⟨w.heap.size+1,0,none⟩)) (by rfl) (λf W' h=>h) (λf W' hf h=>by go_simp) ?_
 try simp only[Act.put,zzA,zzB,zzC]
 refine zab (v:=.agg #[St x3,St y3]) (by rfl) (λf W' h=>h) (λf W' hf h=>by have h0:=h.t0;have h1:=h.t1;go_simp) ?_
 try simp only[Act.put,zzA,zzB,zzC]
 refine zab (v:=.pointer (some ⟨w.heap.size+1,2,none⟩)) (by rfl) (λf W' h=>h) (λf W' hf h=>by go_simp) ?_
 try simp only[Act.put,zzA,zzB,zzC]
 refine zab (v:=.agg #[St x4,St y4]) (by rfl) (λf W' h=>h) (λf W' hf h=>by have h0:=h.t2;have h1:=h.t3;go_simp) ?_
 try simp only[Act.put,zzA,zzB,zzC]
 refine zab (v:=.pointer (some ⟨w.heap.size,2,none⟩)) (by rfl) (λf W' h=>h) (λf W' hf h=>by go_simp) ?_
 try simp only[Act.put,zzA,zzB,zzC]
 refine zab (v:=.agg #[St x2,St y2]) (by rfl) (λf W' h=>h) (λf W' hf h=>by have h0:=h.s2;have h1:=h.s3;go_simp) ?_
 try simp only[Act.put,zzA,zzB,zzC]
 refine zar (.int .i64 0) (by rfl) (λf W' hf h C' hC'=>by
  go_simp
  refine(TD.out _ (HW.out.below h.bel)).mono ?_
  rintro e w' ⟨rfl,hb⟩
  exact⟨rfl,hC' _ (h.next hb)⟩) ?_
 try simp only[Act.put,zzA,zzB,zzC]
 refine zab (v:=.int .i64 0) (by rfl) (λf W' h=>h) (λf W' hf h=>by go_simp) ?_
 try simp only[Act.put,zzA,zzB,zzC]
 refine zab (v:=.int .i64 0) (by rfl) (λf W' h=>h) (λf W' hf h=>by go_simp) ?_
 try simp only[Act.put,zzA,zzB,zzC]
 refine zck λf W2 hf h2=>?_
 have H2:=hid h2
 clear hf f h2 H1 TA TB TC TD
 go_wp2_with fail
 refine zc4 (zno x1 y1 x2 y2 lx ly hx hy) (FlatS w x1 y1 x2 y2 x3 y3 x4 y4 lx ly hx hy) (by kernel_rfl) (by kernel_rfl) (0,0) (by have h:=H2.out;exact⟨⟨h.bel.drew,h.lt,h.hs,h.ht⟩,λk=>(by cases k),λk=>(by cases k),λk=>(by cases k)⟩) λb=>?_
 refine zag (.agg #[St x1,St y1,St x2,St y2]) (by rfl) (by rfl) (λf W' h=>h.congr rfl rfl rfl rfl) (λf W' hf h=>by have h0:=h.base.s0;have h1:=h.base.s1;have h2:=h.base.s2;have h3:=h.base.s3;go_simp) ?_
 try simp only[Act.put,zzA,zzB,zzC]
 refine zbv (.agg #[St lx,St ly]) (by rfl) (by rfl) (λf W' hf h C' hC'=>by
  go_simp
  refine(LS.out _ (HW.out.below h.base.bel)).mono ?_
  rintro e w' ⟨rfl,hb⟩
  exact⟨_,rfl,hC' _ ((h.next hb).congr rfl rfl rfl rfl)⟩) ?_
 try simp only[Act.put,zzA,zzB,zzC]
 refine zag (.agg #[St x1,St y1,St x2,St y2]) (by rfl) (by rfl) (λf W' h=>h.congr rfl rfl rfl rfl) (λf W' hf h=>by have h0:=h.base.s0;have h1:=h.base.s1;have h2:=h.base.s2;have h3:=h.base.s3;go_simp) ?_
 try simp only[Act.put,zzA,zzB,zzC]
 refine zbv (.agg #[St hx,St hy]) (by rfl) (by rfl) (λf W' hf h C' hC'=>by
  go_simp
  refine(HS.out _ (HW.out.below h.base.bel)).mono ?_
  rintro e w' ⟨rfl,hb⟩
  exact⟨_,rfl,hC' _ ((h.next hb).congr rfl rfl rfl rfl)⟩) ?_
 try simp only[Act.put,zzA,zzB,zzC]
 refine zdc (.pointer (some ⟨b.1,0,none⟩)) (by rfl) (by rfl) (λf W' hf h C' hC'=>by
  have h6:=hf.no (j:=6) hf.self (by kernel_rfl)
  have hj:∀j,f j=true->zno x1 y1 x2 y2 lx ly hx hy (W'.heap.size,b.2) j=zno x1 y1 x2 y2 lx ly hx hy b j:=by
   intro j hj
   match j,hj with
   |0,_|1,_|2,_|3,_|5,_=>rfl
   |4,hj=>rw[hf.self] at hj;cases hj
   |_+6,_=>rfl
  have:=hC' _ _ hj (h.new4 h6 rfl rfl rfl rfl)
  go_simp
  exact this) ?_
 try simp only[Act.put,zzA,zzB,zzC]
 refine zdc (.pointer (some ⟨b.2,0,none⟩)) (by rfl) (by rfl) (λf W' hf h C' hC'=>by
  have h7:=hf.no (j:=7) hf.self (by kernel_rfl)
  have hj:∀j,f j=true->zno x1 y1 x2 y2 lx ly hx hy (b.1,W'.heap.size) j=zno x1 y1 x2 y2 lx ly hx hy b j:=by
   intro j hj
   match j,hj with
   |0,_|1,_|2,_|3,_|4,_=>rfl
   |5,hj=>rw[hf.self] at hj;cases hj
   |_+6,_=>rfl
  have:=hC' _ _ hj (h.new5 h7 rfl rfl rfl rfl)
  go_simp
  exact this) ?_
 try simp only[Act.put,zzA,zzB,zzC]
 refine zbv undef (by rfl) (by rfl) (λf W' hf h C' hC'=>by
  have h4:=hf.done 4 (by kernel_rfl)
  have h5:=hf.done 5 (by kernel_rfl)
  have h6:=hf.self
  have hc:=hC' _ (h.put6 h6 h4 h5 rfl rfl rfl rfl)
  have k3:=(h.g4 h4).2.2
  rw[h6,if_neg (by simp)] at k3
  have b0:W'.cell? ⟨b.1,0,none⟩=some (St []):=by simp[World.cell?,k3]
  have b1:W'.cell? ⟨b.1,1,none⟩=some (St []):=by simp[World.cell?,k3]
  have f0:W'.frozen? ⟨b.1,0,none⟩=false:=by simp[World.frozen?,k3]
  have f1:W'.frozen? ⟨b.1,1,none⟩=false:=by simp[World.frozen?,k3]
  clear k3
  go_simp
  exact hc) ?_
 try simp only[Act.put]
 refine zbv undef (by rfl) (by rfl) (λf W' hf h C' hC'=>by
  have h4:=hf.done 4 (by kernel_rfl)
  have h5:=hf.done 5 (by kernel_rfl)
  have h7:=hf.self
  have hc:=hC' _ (h.put7 h7 h4 h5 rfl rfl rfl rfl)
  have k3:=(h.g5 h5).2.2
  rw[h7,if_neg (by simp)] at k3
  have b0:W'.cell? ⟨b.2,0,none⟩=some (St []):=by simp[World.cell?,k3]
  have b1:W'.cell? ⟨b.2,1,none⟩=some (St []):=by simp[World.cell?,k3]
  have f0:W'.frozen? ⟨b.2,0,none⟩=false:=by simp[World.frozen?,k3]
  have f1:W'.frozen? ⟨b.2,1,none⟩=false:=by simp[World.frozen?,k3]
  clear k3
  go_simp
  exact hc) ?_
 try simp only[Act.put]
 refine ze1 λf W3 hf h=>?_
 have hE:FlatE w x1 y1 x2 y2 x3 y3 x4 y4 lx ly hx hy b.1 b.2 W3:=by
  have f4:=hf 4 (by decide);have f5:=hf 5 (by decide);have f6:=hf 6 (by decide);have f7:=hf 7 (by decide)
  have g4:=h.g4 f4;have g5:=h.g5 f5
  rw[if_pos f6] at g4;rw[if_pos f7] at g5
  exact⟨h.base,h.ne f4 f5,g4.1,g4.2.1,g4.2.2,g5.1,g5.2.1,g5.2.2⟩
 clear h hf f
 obtain⟨p,q⟩:=b
 dsimp only at hE⊢
 have H3:=hid hE;clear hE H2
 go_wp2_with fail
 refine zbl (λ_ W=>FlatE w x1 y1 x2 y2 x3 y3 x4 y4 lx ly hx hy p q W) (by kernel_rfl) (by kernel_rfl) (by have h:=H3.out;exact h.next (Below.refl _ _).drew) ?_
 refine zab (v:=.agg #[St x3,St y3,St x4,St y4]) (by rfl) (λf W' h=>h) (λf W' hf h=>by have h0:=h.base.t0;have h1:=h.base.t1;have h2:=h.base.t2;have h3:=h.base.t3;go_simp) ?_
 try simp only[Act.put,zzA,zzB,zzC]
 refine zar (.agg #[St ax,St ay]) (by rfl) (λf W' hf h C' hC'=>by
  go_simp
  refine(LT.out _ (HW.out.below h.base.bel)).mono ?_
  rintro e w' ⟨rfl,hb⟩
  exact⟨rfl,hC' _ (h.next hb)⟩) ?_
 try simp only[Act.put,zzA,zzB,zzC]
 refine zab (v:=.agg #[St lx,St ly]) (by rfl) (λf W' h=>h) (λf W' hf h=>by have h0:=h.c0;have h1:=h.c1;go_simp) ?_
 try simp only[Act.put,zzA,zzB,zzC]
 refine zar (.int .i64 n1) (by rfl) (λf W' hf h C' hC'=>by
  go_simp
  refine(O1.out _ (HW.out.below h.base.bel)).mono ?_
  rintro e w' ⟨rfl,hb⟩
  exact⟨rfl,hC' _ (h.next hb)⟩) ?_
 try simp only[Act.put,zzA,zzB,zzC]
 refine zab (v:=.bool c1) (by rfl) (λf W' h=>h) (λf W' hf h=>by go_simp) ?_
 try simp only[Act.put,zzA,zzB,zzC]
 refine zck λf W4 hf h=>?_
 have H4:=hid h;clear h hf f H3
 have hw3:IntKind.i64.wrap (1-n3)=1-n3:=IntWalk.i64_in _ ⟨by omega,by omega⟩
 cases c1
 ·go_wp2_with fail
  refine zbl (λ_ W=>FlatE w x1 y1 x2 y2 x3 y3 x4 y4 lx ly hx hy p q W) (by kernel_rfl) (by kernel_rfl) (by have h:=H4.out;exact h.next (Below.refl _ _).drew) ?_
  refine zab (v:=.agg #[St x3,St y3,St x4,St y4]) (by rfl) (λf W' h=>h) (λf W' hf h=>by have h0:=h.base.t0;have h1:=h.base.t1;have h2:=h.base.t2;have h3:=h.base.t3;go_simp) ?_
  try simp only[Act.put,zzA,zzB,zzC]
  refine zar (.agg #[St bx,St by']) (by rfl) (λf W' hf h C' hC'=>by
   go_simp
   refine(HT.out _ (HW.out.below h.base.bel)).mono ?_
   rintro e w' ⟨rfl,hb⟩
   exact⟨rfl,hC' _ (h.next hb)⟩) ?_
  try simp only[Act.put,zzA,zzB,zzC]
  refine zab (v:=.agg #[St hx,St hy]) (by rfl) (λf W' h=>h) (λf W' hf h=>by have h0:=h.d0;have h1:=h.d1;go_simp) ?_
  try simp only[Act.put,zzA,zzB,zzC]
  refine zar (.int .i64 n2) (by rfl) (λf W' hf h C' hC'=>by
   go_simp
   refine(O2.out _ (HW.out.below h.base.bel)).mono ?_
   rintro e w' ⟨rfl,hb⟩
   exact⟨rfl,hC' _ (h.next hb)⟩) ?_
  try simp only[Act.put,zzA,zzB,zzC]
  refine zab (v:=.bool c2) (by rfl) (λf W' h=>h) (λf W' hf h=>by go_simp) ?_
  try simp only[Act.put,zzA,zzB,zzC]
  refine zck λf W4 hf h=>?_
  clear H4
  have H4:=hid h;clear h hf f
  cases c2
  ·have g0:=H4.out.c0;have g1:=H4.out.c1;have g2:=H4.out.d0;have g3:=H4.out.d1
   have hB:=H4.out.base.bel
   have hwd:=HW.out.below hB
   have hO:=O3.out
   simp only[Bool.false_eq_true,if_false] at hO
   have HO:=hid hO;clear hO O3
   go_wp2_with fail
   refine(HO.out _ hwd).mono ?_
   rintro e W7 ⟨rfl,hb7⟩
   have hB7:=hB.trans (hb7.mono hB.size)
   clear g0 g1 g2 g3 hwd hb7
   go_wp2_with fail
   go_ret
   exact⟨rfl,hB7⟩
  ·have s0:=H4.out.base.t0;have s1:=H4.out.base.t1;have s2:=H4.out.base.t2;have s3:=H4.out.base.t3
   have hwd:=HW.out.below H4.out.base.bel
   go_wp2_with fail
   refine(HT.out _ hwd).mono ?_
   rintro e W5 ⟨rfl,hb5⟩
   have h5:=H4.out.next hb5
   have h6:=h5.putq bx by'
   have g0:=h5.d0;have g1:=h5.d1
   obtain⟨f0,f1,f2,f3⟩:=h5.fr
   clear s0 s1 s2 s3 hwd hb5 h5 H4
   have k0:=h6.c0;have k1:=h6.c1;have k2:=h6.d0;have k3:=h6.d1
   have hB:=h6.base.bel
   have hwd:=HW.out.below hB
   have hO:=O3.out
   simp only[Bool.false_eq_true,if_false,if_true] at hO
   have HO:=hid hO;clear hO O3 h6
   go_wp2_with fail
   refine(HO.out _ hwd).mono ?_
   rintro e W7 ⟨rfl,hb7⟩
   have hB7:=hB.trans (hb7.mono hB.size)
   clear k0 k1 k2 k3 g0 g1 f0 f1 f2 f3 hwd hb7
   go_wp2_with fail
   go_ret
   exact⟨rfl,hB7⟩
 ·have s0:=H4.out.base.t0;have s1:=H4.out.base.t1;have s2:=H4.out.base.t2;have s3:=H4.out.base.t3
  have hwd:=HW.out.below H4.out.base.bel
  go_wp2_with fail
  refine(LT.out _ hwd).mono ?_
  rintro e W5 ⟨rfl,hb5⟩
  have h5:=H4.out.next hb5
  have h6:=h5.putp ax ay
  have g0:=h5.c0;have g1:=h5.c1
  obtain⟨f0,f1,f2,f3⟩:=h5.fr
  clear s0 s1 s2 s3 hwd hb5 h5 H4
  have H6:=hid h6;clear h6
  go_wp2_with fail
  clear g0 g1 f0 f1 f2 f3
  refine zbl (λ_ W=>FlatE w x1 y1 x2 y2 x3 y3 x4 y4 ax ay hx hy p q W) (by kernel_rfl) (by kernel_rfl) (by have h:=H6.out;exact h.next (Below.refl _ _).drew) ?_
  refine zab (v:=.agg #[St x3,St y3,St x4,St y4]) (by rfl) (λf W' h=>h) (λf W' hf h=>by have h0:=h.base.t0;have h1:=h.base.t1;have h2:=h.base.t2;have h3:=h.base.t3;go_simp) ?_
  try simp only[Act.put,zzA,zzB,zzC]
  refine zar (.agg #[St bx,St by']) (by rfl) (λf W' hf h C' hC'=>by
   go_simp
   refine(HT.out _ (HW.out.below h.base.bel)).mono ?_
   rintro e w' ⟨rfl,hb⟩
   exact⟨rfl,hC' _ (h.next hb)⟩) ?_
  try simp only[Act.put,zzA,zzB,zzC]
  refine zab (v:=.agg #[St hx,St hy]) (by rfl) (λf W' h=>h) (λf W' hf h=>by have h0:=h.d0;have h1:=h.d1;go_simp) ?_
  try simp only[Act.put,zzA,zzB,zzC]
  refine zar (.int .i64 n2) (by rfl) (λf W' hf h C' hC'=>by
   go_simp
   refine(O2.out _ (HW.out.below h.base.bel)).mono ?_
   rintro e w' ⟨rfl,hb⟩
   exact⟨rfl,hC' _ (h.next hb)⟩) ?_
  try simp only[Act.put,zzA,zzB,zzC]
  refine zab (v:=.bool c2) (by rfl) (λf W' h=>h) (λf W' hf h=>by go_simp) ?_
  try simp only[Act.put,zzA,zzB,zzC]
  refine zck λf W4 hf h=>?_
  clear H6
  have H4:=hid h;clear h hf f
  cases c2
  ·have g0:=H4.out.c0;have g1:=H4.out.c1;have g2:=H4.out.d0;have g3:=H4.out.d1
   have hB:=H4.out.base.bel
   have hwd:=HW.out.below hB
   have hO:=O3.out
   simp only[Bool.false_eq_true,if_false,if_true] at hO
   have HO:=hid hO;clear hO O3
   go_wp2_with fail
   refine(HO.out _ hwd).mono ?_
   rintro e W7 ⟨rfl,hb7⟩
   have hB7:=hB.trans (hb7.mono hB.size)
   clear g0 g1 g2 g3 hwd hb7
   go_wp2_with fail
   go_ret
   exact⟨rfl,hB7⟩
  ·have s0:=H4.out.base.t0;have s1:=H4.out.base.t1;have s2:=H4.out.base.t2;have s3:=H4.out.base.t3
   have hwd:=HW.out.below H4.out.base.bel
   go_wp2_with fail
   refine(HT.out _ hwd).mono ?_
   rintro e W5 ⟨rfl,hb5⟩
   have h5:=H4.out.next hb5
   have h6:=h5.putq bx by'
   have g0:=h5.d0;have g1:=h5.d1
   obtain⟨f0,f1,f2,f3⟩:=h5.fr
   clear s0 s1 s2 s3 hwd hb5 h5 H4
   have k0:=h6.c0;have k1:=h6.c1;have k2:=h6.d0;have k3:=h6.d1
   have hB:=h6.base.bel
   have hwd:=HW.out.below hB
   have hO:=O3.out
   simp only[if_true] at hO
   have HO:=hid hO;clear hO O3 h6
   go_wp2_with fail
   refine(HO.out _ hwd).mono ?_
   rintro e W7 ⟨rfl,hb7⟩
   have hB7:=hB.trans (hb7.mono hB.size)
   clear k0 k1 k2 k3 g0 g1 f0 f1 f2 f3 hwd hb7
   go_wp2_with fail
   go_ret
   exact⟨rfl,hB7⟩
theorem z22 (x:ByteArray) (u v t:ByteArray) (b:Bool) (hb:decide ((36:Int)<max (t.size:Int) (v.size:Int))=b)
 (T:Hid (⟨(trimPrefix u.data.toList [45]).toArray⟩=t))
 (PA:Hid (∀W:World,Wd W->Calls Tryz.prog 117 #[.string x] W λe w'=>e=.returned (.tuple #[.string u,.string v,.int .i64 0])/\Below W.heap.size W w')) (w:World) (HW:Hid (Wd w)):
 Calls Tryz.prog 80 #[.string x] w λe w'=>e=.returned (.int .i64 (if b then 4 else 0))/\Below w.heap.size w w':=by
 cases b
 all_goals (
 simp only[Bool.false_eq_true,if_false,if_true]
 go_enter Tryz.func80,Tryz.ntmps80
 go_wp2_with fail
 refine(PA.out _ HW.out).mono ?_
 rintro e w1 ⟨rfl,hB⟩
 go_wp2_with fail
 refine(Tryz.strings_TrimPrefix _ _ _).mono ?_
 rintro e w' ⟨rfl,rfl⟩
 simp only[T.out]
 go_wp2_with fail
 go_ret
 exact⟨rfl,hB⟩)
theorem z3g (x:Int) (n:Nat) (_ v t:ByteArray) (hv:v=⟨(decDigits n).toArray⟩) (ht:t=⟨(decDigits x.natAbs).toArray⟩) (b:Bool) (hb:(if digs x<=36/\(decDigits n).length<=36 then(0:Int) else 4)=if b then 4 else 0):
 decide ((36:Int)<max (t.size:Int) (v.size:Int))=b:=by
 have e1:t.size=digs x:=by rw[ht];show(decDigits x.natAbs).toArray.size=_;simp[digs]
 have e2:v.size=(decDigits n).length:=by rw[hv];show(decDigits n).toArray.size=_;simp
 rw[e1,e2]
 cases b
 ·rw[decide_eq_false_iff_not]
  by_cases h:digs x<=36/\(decDigits n).length<=36
  ·omega
  ·rw[if_neg h] at hb;simp at hb
 ·rw[decide_eq_true_iff]
  by_cases h:digs x<=36/\(decDigits n).length<=36
  ·rw[if_pos h] at hb;simp at hb
  ·omega
def numE (q:Rat):Int:=if digs q.num<=36/\(decDigits q.den).length<=36 then 0 else 4
theorem zl9 (q:Rat) (h:okQ q) (w:World) (hw:Wd w):
 Calls Tryz.prog 80 #[St (numS q)] w λe w'=>e=.returned (.int .i64 (numE q))/\Below w.heap.size w w':=by
 obtain⟨b,hb⟩:∃b:Bool,numE q=if b then 4 else 0:=by
  unfold numE
  by_cases h:digs q.num<=36/\(decDigits q.den).length<=36
  ·exact⟨false,by rw[if_pos h];rfl⟩
  ·exact⟨true,by rw[if_neg h];rfl⟩
 rw[hb]
 refine z22 _ ⟨(itoa q.num).toArray⟩ ⟨(decDigits q.den).toArray⟩ _ b ?_ (hid rfl) (hid λW hW=>zk5 q h W hW) w (hid hw)
 exact z3g q.num q.den ⟨(itoa q.num).toArray⟩ _ _ rfl (by rw[<-zbi]) b hb
structure PtS (w:World) (x y:List UInt8) (W:World):Prop where
 bel:Below w.heap.size w W
 lt:w.heap.size<W.heap.size
 hp:W.heap[w.heap.size]? =some (.cells #[St x,St y] 24 (0,0))
theorem PtS.next {w:World} {x y:List UInt8} {W W':World} (h:PtS w x y W) (hb:Below W.heap.size W W'):PtS w x y W':=
 ⟨h.bel.trans (hb.mono h.bel.size),Nat.lt_of_lt_of_le h.lt hb.size,(hb.block _ h.lt).trans h.hp⟩
theorem PtS.c0 {w:World} {x y:List UInt8} {W:World} (h:PtS w x y W):W.cell? ⟨w.heap.size,0,none⟩=some (St x):=by have:=h.hp;simp[World.cell?,this]
theorem PtS.c1 {w:World} {x y:List UInt8} {W:World} (h:PtS w x y W):W.cell? ⟨w.heap.size,1,none⟩=some (St y):=by have:=h.hp;simp[World.cell?,this]
theorem zri (x y:List UInt8) (m n:Int)
 (CX:Hid (∀W:World,Wd W->Calls Tryz.prog 70 #[St x] W λe w'=>e=.returned (.int .i64 0)/\Below W.heap.size W w'))
 (CY:Hid (∀W:World,Wd W->Calls Tryz.prog 70 #[St y] W λe w'=>e=.returned (.int .i64 0)/\Below W.heap.size W w'))
 (NX:Hid (∀W:World,Wd W->Calls Tryz.prog 80 #[St x] W λe w'=>e=.returned (.int .i64 m)/\Below W.heap.size W w'))
 (NY:Hid (∀W:World,Wd W->Calls Tryz.prog 80 #[St y] W λe w'=>e=.returned (.int .i64 n)/\Below W.heap.size W w'))
 (w:World) (HW:Hid (Wd w)):
 Calls Tryz.prog 42 #[.agg #[St x,St y]] w λe w'=>e=.returned (.int .i64 (max m n))/\Below w.heap.size w w':=by
 have hinit:PtS w x y (w.alloc (.cells #[St x,St y] 24)):=⟨(Below.refl _ w).alloc (Nat.le_refl _) _,by simp,World.alloc_heap_new w _⟩
 obtain⟨W1,hW1⟩:∃W1,W1=w.alloc (.cells #[St x,St y] 24):=⟨_,rfl⟩
 rw[<-hW1] at hinit
 have i0:=hinit.c0;have i1:=hinit.c1
 rw[hW1] at i0 i1
 have HI:=hid hinit;clear hinit
 have HW1:=hid hW1;clear hW1
 have x0:∀w:World,(Instr.index 115 (.agg #[St x,St y]) (.int .i64 0)).run Tryz.prog w=.ok (St x) w:=λ_=>by kernel_rfl
 have x1:∀w:World,(Instr.index 115 (.agg #[St x,St y]) (.int .i64 1)).run Tryz.prog w=.ok (St y) w:=λ_=>by kernel_rfl
 go_enter Tryz.func42,Tryz.ntmps42
 go_wp2_with fail
 rw[<-HW1.out]
 clear i0 i1
 refine wp_loop_rounds 3 ?_
 rw[rounds_succ]
 go_wp2_with fail
 refine(CX.out _ (HW.out.below HI.out.bel)).mono ?_
 rintro e W2 ⟨rfl,hb2⟩
 have H2:=hid (HI.out.next hb2);clear HI hb2
 go_wp2_with fail
 rw[rounds_succ]
 go_wp2_with fail
 refine(CY.out _ (HW.out.below H2.out.bel)).mono ?_
 rintro e W3 ⟨rfl,hb3⟩
 have H3:=hid (H2.out.next hb3);clear H2 hb3
 go_wp2_with fail
 rw[rounds_succ]
 go_wp2_with fail
 refine zbl (λ_ W=>PtS w x y W) (by kernel_rfl) (by kernel_rfl) (by have h:=H3.out;exact h.next (Below.refl _ _).drew) ?_
 refine zab (v:=.pointer (some ⟨w.heap.size,0,none⟩)) (by rfl) (λf W' h=>h) (λf W' hf h=>by go_simp) ?_
 try simp only[Act.put,zzA,zzB,zzC]
 refine zab (v:=St x) (by rfl) (λf W' h=>h) (λf W' hf h=>by have h0:=h.c0;go_simp) ?_
 try simp only[Act.put,zzA,zzB,zzC]
 refine zar (.int .i64 m) (by rfl) (λf W' hf h C' hC'=>by
  go_simp
  refine(NX.out _ (HW.out.below h.bel)).mono ?_
  rintro e w' ⟨rfl,hb⟩
  exact⟨rfl,hC' _ (h.next hb)⟩) ?_
 try simp only[Act.put,zzA,zzB,zzC]
 refine zab (v:=.pointer (some ⟨w.heap.size,1,none⟩)) (by rfl) (λf W' h=>h) (λf W' hf h=>by go_simp) ?_
 try simp only[Act.put,zzA,zzB,zzC]
 refine zab (v:=St y) (by rfl) (λf W' h=>h) (λf W' hf h=>by have h0:=h.c1;go_simp) ?_
 try simp only[Act.put,zzA,zzB,zzC]
 refine zar (.int .i64 n) (by rfl) (λf W' hf h C' hC'=>by
  go_simp
  refine(NY.out _ (HW.out.below h.bel)).mono ?_
  rintro e w' ⟨rfl,hb⟩
  exact⟨rfl,hC' _ (h.next hb)⟩) ?_
 try simp only[Act.put,zzA,zzB,zzC]
 refine zab (v:=.int .i64 (max m n)) (by rfl) (λf W' h=>h) (λf W' hf h=>by go_simp) ?_
 try simp only[Act.put,zzA,zzB,zzC]
 refine zab (v:=.int .i64 (max m n)) (by rfl) (λf W' h=>h) (λf W' hf h=>by go_simp) ?_
 try simp only[Act.put,zzA,zzB,zzC]
 refine zck λf W4 hf h=>?_
 have hB:=h.bel
 clear h hf f H3
 go_wp2_with fail
 go_ret
 exact⟨rfl,hB⟩
def ptE (p:Pt):Int:=max (numE p.x) (numE p.y)
theorem zp6 (p:Pt) (hx:okQ p.x) (hy:okQ p.y) (w:World) (hw:Wd w):
 Calls Tryz.prog 42 #[ptV p] w λe w'=>e=.returned (.int .i64 (ptE p))/\Below w.heap.size w w':=
 zri _ _ _ _ (hid λW hW=>zfj p.x hx W hW) (hid λW hW=>zfj p.y hy W hW) (hid λW hW=>zl9 p.x hx W hW) (hid λW hW=>zl9 p.y hy W hW) w (hid hw)
theorem zok {q:Rat} {k:Nat} (hk:0<k) (h:sz q k):digs q.num<=k/\(decDigits q.den).length<=k:=⟨(za3 _ _ hk).2 h.1,(zaf _ _ hk).2 h.2⟩
theorem zt2 {q:Rat} (h:sz q 36):numE q=0:=if_pos (zok (by omega) h)
theorem zw2 {q:Rat} (h:sz q 36):okQ q:=let h:=zok (by omega) h;⟨Nat.le_trans h.1 (by omega),Nat.le_trans h.2 (by omega)⟩
theorem zdi (p:Pt) (h:szP p 36) (w:World) (hw:Wd w):
 Calls Tryz.prog 42 #[ptV p] w λe w'=>e=.returned (.int .i64 0)/\Below w.heap.size w w':=by
 have:=zp6 p (zw2 h.1) (zw2 h.2) w hw
 rwa [show ptE p=0 by unfold ptE;rw[zt2 h.1,zt2 h.2];rfl] at this
theorem zol (a b c d:Pt) (k:Nat) (hk:0<k) (hk2:8*k+4<=300) (ha:szP a k) (hb:szP b k) (hc:szP c k) (hd:szP d k) (w:World) (hw:Wd w):
 Calls Tryz.prog 43 #[segV a b,segV c d] w λe w'=>e=.returned (.int .i64 (meet a b c d))/\Below w.heap.size w w':=by
 have TA:=hid λW hW=>zjg a b c k hk hk2 ha hb hc W hW
 have TB:=hid λW hW=>zjg a b d k hk hk2 ha hb hd W hW
 have TC:=hid λW hW=>zjg c d a k hk hk2 hc hd ha W hW
 have TD:=hid λW hW=>zjg c d b k hk hk2 hc hd hb W hW
 have r:∀x y z:Pt, -1<=turn x y z/\turn x y z<=1:=λx y z=>by rcases znm x y z with h|h|h<;>omega
 by_cases hz:turn a b c=0/\turn a b d=0/\turn c d a=0/\turn c d b=0
 ·have hlow:∀x y:Pt,szP x k->szP y k->szP (low x y) k:=λx y hx hy=>by unfold low;split<;>assumption
  have hhigh:∀x y:Pt,szP x k->szP y k->szP (high x y) k:=λx y hx hy=>by unfold high;split<;>assumption
  have ho:∀x y:Pt, -1<=ordP x y/\ordP x y<=1:=λx y=>by rcases zas x y with h|h|h<;>omega
  have O:∀x y:Pt,szP x k->szP y k->Hid (∀W:World,Wd W->Calls Tryz.prog 83 #[ptV x,ptV y] W λe w'=>e=.returned (.int .i64 (ordP x y))/\Below W.heap.size W w'):=λx y hx hy=>hid λW hW=>zmy x y k k hk hk (by omega) hx hy W hW
  rw[hz.1] at TA;rw[hz.2.1] at TB;rw[hz.2.2.1] at TC;rw[hz.2.2.2] at TD
  have LS:=hid λW hW=>zwy a b k hk hk2 ha hb W hW
  have HS:=hid λW hW=>zt0 a b k hk hk2 ha hb W hW
  have LT:=hid λW hW=>zwy c d k hk hk2 hc hd W hW
  have HT:=hid λW hW=>zt0 c d k hk hk2 hc hd W hW
  obtain⟨c1,e1⟩:∃c1,decide (0<ordP (low c d) (low a b))=c1:=⟨_,rfl⟩
  obtain⟨c2,e2⟩:∃c2,decide (ordP (high c d) (high a b)<0)=c2:=⟨_,rfl⟩
  have em:meet a b c d=1-ordP (if c1 then low c d else low a b) (if c2 then high c d else high a b):=by
   unfold meet
   rw[if_neg (by simp[hz])]
   subst e1;subst e2
   simp only[decide_eq_true_eq]
  rw[em]
  have O3:=O (if c1 then low c d else low a b) (if c2 then high c d else high a b) (by split;exact hlow _ _ hc hd;exact hlow _ _ ha hb) (by split;exact hhigh _ _ hc hd;exact hhigh _ _ ha hb)
  refine zw1 _ _ _ _ _ _ _ _ _ _ _ _ _ _ _ _ (ordP (low c d) (low a b)) (ordP (high c d) (high a b)) _ c1 c2 e1 e2 (ho _ _) TA TB TC TD LS HS LT HT (O _ _ (hlow _ _ hc hd) (hlow _ _ ha hb)) (O _ _ (hhigh _ _ hc hd) (hhigh _ _ ha hb)) ?_ w (hid hw)
  cases c1<;>cases c2<;>exact O3
 ·refine zu6 _ _ _ _ _ _ _ _ _ _ _ _ _ TA TB TC TD (r _ _ _) (r _ _ _) (r _ _ _) (r _ _ _) hz ?_ w (hid hw)
  unfold meet
  rw[if_pos (by omega)]
structure FourS (w:World) (x1 y1 x2 y2 x3 y3 x4 y4:List UInt8) (W:World):Prop where
 bel:Below w.heap.size w W
 lt:w.heap.size+3<W.heap.size
 h1:W.heap[w.heap.size]? =some (.cells #[St x1,St y1] 24 (0,0))
 h2:W.heap[w.heap.size+1]? =some (.cells #[St x2,St y2] 24 (0,0))
 h3:W.heap[w.heap.size+2]? =some (.cells #[St x3,St y3] 24 (0,0))
 h4:W.heap[w.heap.size+3]? =some (.cells #[St x4,St y4] 24 (0,0))
theorem FourS.next {w:World} {x1 y1 x2 y2 x3 y3 x4 y4:List UInt8} {W W':World} (h:FourS w x1 y1 x2 y2 x3 y3 x4 y4 W) (hb:Below W.heap.size W W'):FourS w x1 y1 x2 y2 x3 y3 x4 y4 W':=
 have hl:=h.lt
 ⟨h.bel.trans (hb.mono h.bel.size),Nat.lt_of_lt_of_le h.lt hb.size,(hb.block _ (by omega)).trans h.h1,(hb.block _ (by omega)).trans h.h2,(hb.block _ (by omega)).trans h.h3,(hb.block _ (by omega)).trans h.h4⟩
theorem FourS.cells {w:World} {x1 y1 x2 y2 x3 y3 x4 y4:List UInt8} {W:World} (h:FourS w x1 y1 x2 y2 x3 y3 x4 y4 W):
 W.cell? ⟨w.heap.size,0,none⟩=some (St x1)/\W.cell? ⟨w.heap.size,1,none⟩=some (St y1)/\W.cell? ⟨w.heap.size+1,0,none⟩=some (St x2)/\W.cell? ⟨w.heap.size+1,1,none⟩=some (St y2)/\
 W.cell? ⟨w.heap.size+2,0,none⟩=some (St x3)/\W.cell? ⟨w.heap.size+2,1,none⟩=some (St y3)/\W.cell? ⟨w.heap.size+3,0,none⟩=some (St x4)/\W.cell? ⟨w.heap.size+3,1,none⟩=some (St y4):=by
 have h1:=h.h1;have h2:=h.h2;have h3:=h.h3;have h4:=h.h4
 simp[World.cell?,h1,h2,h3,h4]
theorem FourS.start (w:World) (x1 y1 x2 y2 x3 y3 x4 y4:List UInt8):
 FourS w x1 y1 x2 y2 x3 y3 x4 y4 ((((w.alloc (.cells #[St x1,St y1] 24)).alloc (.cells #[St x2,St y2] 24)).alloc (.cells #[St x3,St y3] 24)).alloc (.cells #[St x4,St y4] 24)):=by
 refine⟨((((Below.refl _ w).alloc (Nat.le_refl _) _).alloc (by simp) _).alloc (by simp;omega) _).alloc (by simp;omega) _,by simp,?_,?_,?_,?_⟩
 ·exact(Below.heap_alloc _ _ _ (by simp;omega)).trans ((Below.heap_alloc _ _ _ (by simp;omega)).trans ((Below.heap_alloc _ _ _ (by simp)).trans (World.alloc_heap_new w _)))
 ·have:=World.alloc_heap_new (w.alloc (.cells #[St x1,St y1] 24)) (.cells #[St x2,St y2] 24)
  rw[World.size_alloc] at this
  exact(Below.heap_alloc _ _ _ (by simp)).trans ((Below.heap_alloc _ _ _ (by simp)).trans this)
 ·have:=World.alloc_heap_new ((w.alloc (.cells #[St x1,St y1] 24)).alloc (.cells #[St x2,St y2] 24)) (.cells #[St x3,St y3] 24)
  simp only[World.size_alloc] at this
  exact(Below.heap_alloc _ _ _ (by simp)).trans this
 ·have:=World.alloc_heap_new (((w.alloc (.cells #[St x1,St y1] 24)).alloc (.cells #[St x2,St y2] 24)).alloc (.cells #[St x3,St y3] 24)) (.cells #[St x4,St y4] 24)
  simp only[World.size_alloc] at this
  exact this
theorem zu7 (x1 y1 x2 y2 x3 y3 x4 y4:List UInt8) (r:Int)
 (C1:Hid (∀W:World,Wd W->Calls Tryz.prog 42 #[.agg #[St x1,St y1]] W λe w'=>e=.returned (.int .i64 0)/\Below W.heap.size W w'))
 (C2:Hid (∀W:World,Wd W->Calls Tryz.prog 42 #[.agg #[St x2,St y2]] W λe w'=>e=.returned (.int .i64 0)/\Below W.heap.size W w'))
 (C3:Hid (∀W:World,Wd W->Calls Tryz.prog 42 #[.agg #[St x3,St y3]] W λe w'=>e=.returned (.int .i64 0)/\Below W.heap.size W w'))
 (C4:Hid (∀W:World,Wd W->Calls Tryz.prog 42 #[.agg #[St x4,St y4]] W λe w'=>e=.returned (.int .i64 0)/\Below W.heap.size W w'))
 (M:Hid (∀W:World,Wd W->Calls Tryz.prog 43 #[.agg #[St x1,St y1,St x2,St y2],.agg #[St x3,St y3,St x4,St y4]] W λe w'=>e=.returned (.int .i64 r)/\Below W.heap.size W w'))
 (w:World) (HW:Hid (Wd w)):
 Calls Tryz.prog 15 #[.agg #[St x1,St y1],.agg #[St x2,St y2],.agg #[St x3,St y3],.agg #[St x4,St y4]] w λe w'=>e=.returned (.tuple #[.int .i64 r,.int .i64 0])/\Below w.heap.size w w':=by
 have hinit:=FourS.start w x1 y1 x2 y2 x3 y3 x4 y4
 obtain⟨i1,i2,i3,i4,i5,i6,i7,i8⟩:=hinit.cells
 obtain⟨W1,hW1⟩:∃W1,W1=(((w.alloc (.cells #[St x1,St y1] 24)).alloc (.cells #[St x2,St y2] 24)).alloc (.cells #[St x3,St y3] 24)).alloc (.cells #[St x4,St y4] 24):=⟨_,rfl⟩
 rw[<-hW1] at hinit
 have HI:=hid hinit;clear hinit
 have HW1:=hid hW1;clear hW1
 have x0:∀w:World,(Instr.index 80 (.agg #[St x1,St y1,St x2,St y2,St x3,St y3,St x4,St y4]) (.int .i64 0)).run Tryz.prog w=.ok (.agg #[St x1,St y1]) w:=λ_=>by kernel_rfl
 have x1':∀w:World,(Instr.index 80 (.agg #[St x1,St y1,St x2,St y2,St x3,St y3,St x4,St y4]) (.int .i64 1)).run Tryz.prog w=.ok (.agg #[St x2,St y2]) w:=λ_=>by kernel_rfl
 have x2':∀w:World,(Instr.index 80 (.agg #[St x1,St y1,St x2,St y2,St x3,St y3,St x4,St y4]) (.int .i64 2)).run Tryz.prog w=.ok (.agg #[St x3,St y3]) w:=λ_=>by kernel_rfl
 have x3':∀w:World,(Instr.index 80 (.agg #[St x1,St y1,St x2,St y2,St x3,St y3,St x4,St y4]) (.int .i64 3)).run Tryz.prog w=.ok (.agg #[St x4,St y4]) w:=λ_=>by kernel_rfl
 go_enter Tryz.func15,Tryz.ntmps15
 go_wp2_with fail
 rw[<-HW1.out]
 clear i1 i2 i3 i4 i5 i6 i7 i8
 refine wp_loop_rounds 5 ?_
 rw[rounds_succ]
 go_wp2_with fail
 have b1:Below W1.heap.size W1 (W1.alloc (.cells #[St x1,St y1] 24)):=(Below.refl _ W1).alloc (Nat.le_refl _) _
 refine(C1.out _ (HW.out.below (HI.out.next b1).bel)).mono ?_
 rintro e V1 ⟨rfl,c1⟩
 have K1:=hid ((HI.out.next b1).next c1);clear HI b1 c1
 go_wp2_with fail
 rw[rounds_succ]
 go_wp2_with fail
 have b2:Below V1.heap.size V1 (V1.alloc (.cells #[St x2,St y2] 24)):=(Below.refl _ V1).alloc (Nat.le_refl _) _
 refine(C2.out _ (HW.out.below (K1.out.next b2).bel)).mono ?_
 rintro e V2 ⟨rfl,c2⟩
 have K2:=hid ((K1.out.next b2).next c2);clear K1 b2 c2
 go_wp2_with fail
 rw[rounds_succ]
 go_wp2_with fail
 have b3:Below V2.heap.size V2 (V2.alloc (.cells #[St x3,St y3] 24)):=(Below.refl _ V2).alloc (Nat.le_refl _) _
 refine(C3.out _ (HW.out.below (K2.out.next b3).bel)).mono ?_
 rintro e V3 ⟨rfl,c3⟩
 have K3:=hid ((K2.out.next b3).next c3);clear K2 b3 c3
 go_wp2_with fail
 rw[rounds_succ]
 go_wp2_with fail
 have b4:Below V3.heap.size V3 (V3.alloc (.cells #[St x4,St y4] 24)):=(Below.refl _ V3).alloc (Nat.le_refl _) _
 refine(C4.out _ (HW.out.below (K3.out.next b4).bel)).mono ?_
 rintro e V4 ⟨rfl,c4⟩
 have K4:=hid ((K3.out.next b4).next c4);clear K3 b4 c4
 go_wp2_with fail
 rw[rounds_succ]
 obtain⟨i1,i2,i3,i4,i5,i6,i7,i8⟩:=K4.out.cells
 change V4.cell? ⟨w.heap.size+1+1,0,none⟩=_ at i5
 change V4.cell? ⟨w.heap.size+1+1,1,none⟩=_ at i6
 change V4.cell? ⟨w.heap.size+1+1+1,0,none⟩=_ at i7
 change V4.cell? ⟨w.heap.size+1+1+1,1,none⟩=_ at i8
 have hB:=K4.out.bel
 go_wp2_with fail
 refine(M.out _ (HW.out.below hB)).mono ?_
 rintro e V5 ⟨rfl,c5⟩
 have hB5:=hB.trans (c5.mono hB.size)
 clear i1 i2 i3 i4 i5 i6 i7 i8 K4 c5 hB
 go_wp2_with fail
 go_ret2
 exact⟨rfl,hB5⟩
theorem zs6 (a b c d:Pt) (ha:szP a 36) (hb:szP b 36) (hc:szP c 36) (hd:szP d 36) (w:World) (hw:Wd w):
 Calls Tryz.prog 15 #[ptV a,ptV b,ptV c,ptV d] w λe w'=>e=.returned (.tuple #[.int .i64 (meet a b c d),.int .i64 0])/\Below w.heap.size w w':=
 zu7 _ _ _ _ _ _ _ _ _ (hid λW hW=>zdi a ha W hW) (hid λW hW=>zdi b hb W hW) (hid λW hW=>zdi c hc W hW) (hid λW hW=>zdi d hd W hW)
  (hid λW hW=>zol a b c d 36 (by omega) (by omega) ha hb hc hd W hW) w (hid hw)
end Go.Proofs.YtbjomkfgicffhaaGreatDoor
namespace Go.Proofs.YtbjomkfgicffhaaGreatDoor
open Go.RowKit Go.Shelf Lib Str Limb
attribute [local go_sem] Oper.semAt_some
theorem zzg (x u v:List UInt8)
 (PA:Hid (∀W:World,Wd W->Calls Tryz.prog 117 #[St x] W λe w'=>e=.returned (.tuple #[St u,St v,.int .i64 0])/\Below W.heap.size W w')) (w:World) (HW:Hid (Wd w)):
 Calls Tryz.prog 163 #[St x] w λe w'=>e=.returned (.agg #[St u,St v])/\Below w.heap.size w w':=by
 obtain⟨W1,hW1⟩:∃W1,W1=w.alloc (.cells #[St [],St []] 201):=⟨_,rfl⟩
 have hb1:Below w.heap.size w W1:=by rw[hW1];exact(Below.refl _ w).alloc (Nat.le_refl _) _
 have A1:W1.heap[w.heap.size]? =some (.cells #[St [],St []] 201 (0,0)):=by rw[hW1];exact World.alloc_heap_new w _
 have hz:W1.heap.size=w.heap.size+1:=by rw[hW1];simp
 have HW1:=hid hW1;clear hW1
 go_enter Tryz.func163,Tryz.ntmps163
 go_wp2_with fail
 have h9:=HW1.out
 rw[<-h9]
 clear h9
 refine(PA.out _ (HW.out.below hb1)).mono ?_
 rintro e w2 ⟨rfl,hb2⟩
 have hB2:=hb1.trans (hb2.mono hb1.size)
 have A2:w2.heap[w.heap.size]? =some (.cells #[St [],St []] 201 (0,0)):=(hb2.block _ (by omega)).trans A1
 have b0:w2.cell? ⟨w.heap.size,0,none⟩=some (St []):=by rw[Go.Joins.cell_of_block A2];rfl
 have b1:w2.cell? ⟨w.heap.size,1,none⟩=some (St []):=by rw[Go.Joins.cell_of_block A2];rfl
 have f0:w2.frozen? ⟨w.heap.size,0,none⟩=false:=Go.Joins.unfrozen_of_block A2 0
 have f1:w2.frozen? ⟨w.heap.size,1,none⟩=false:=Go.Joins.unfrozen_of_block A2 1
 clear A1 A2 hb2
 go_wp2_with fail
 refine bodyPost_ret (v:=.agg #[St u,St v]) (by simp[results,Tryz.results163,go_sem,b0,b1]) rfl ⟨rfl,?_⟩
 repeat(first|exact hB2|refine Below.setCell ?_ (by simp) _)
theorem zio (q:Rat) (h:okQ q) (w:World) (hw:Wd w):
 Calls Tryz.prog 163 #[St (numS q)] w λe w'=>e=.returned (.agg #[St (itoa q.num),St (decDigits q.den)])/\Below w.heap.size w w':=
 zzg _ _ _ (hid λW hW=>zk5 q h W hW) w (hid hw)
theorem zkh (x:Int) (w:World):
 Calls Tryz.prog 128 #[St (itoa x)] w λe w'=>e=.returned (.int .i64 (digs x:Nat))/\Below w.heap.size w w':=by
 obtain⟨t,ht⟩:∃t:ByteArray,t=⟨(trimPrefix (⟨(itoa x).toArray⟩:ByteArray).data.toList [45]).toArray⟩:=⟨_,rfl⟩
 have hs:t.size=digs x:=by
  rw[ht];show(trimPrefix (itoa x) [45]).toArray.size=_
  rw[zbi];simp[digs]
 rw[<-hs]
 have HT:=hid ht;clear ht hs
 show Calls _ _ #[.string ⟨(itoa x).toArray⟩] _ _
 generalize (⟨(itoa x).toArray⟩:ByteArray)=u at*
 go_enter Tryz.func128,Tryz.ntmps128
 go_wp2_with fail
 refine(Tryz.strings_TrimPrefix _ _ _).mono ?_
 rintro e w' ⟨rfl,hw1⟩
 have hw2:=hw1.symm;subst hw2
 have h9:=HT.out
 rw[<-show t=⟨(trimPrefix u.data.toList (⟨#[45]⟩:ByteArray).data.toList).toArray⟩ from h9]
 clear h9 hw1
 go_wp2_with fail
 go_ret
 exact⟨rfl,Below.refl _ _⟩
theorem zw3 (x u v:List UInt8) (a b:Nat) (w:World) (HW:Hid (Wd w))
 (PA:Hid (∀W:World,Wd W->Calls Tryz.prog 117 #[St x] W λe w'=>e=.returned (.tuple #[St u,St v,.int .i64 0])/\Below W.heap.size W w'))
 (D1:Hid (∀W:World,Calls Tryz.prog 128 #[St u] W λe w'=>e=.returned (.int .i64 a)/\Below W.heap.size W w'))
 (D2:Hid (∀W:World,Calls Tryz.prog 128 #[St v] W λe w'=>e=.returned (.int .i64 b)/\Below W.heap.size W w')):
 Calls Tryz.prog 94 #[St x] w λe w'=>e=.returned (.int .i64 (max (a:Int) b))/\Below w.heap.size w w':=by
 go_enter Tryz.func94,Tryz.ntmps94
 go_wp2_with fail
 refine(PA.out _ HW.out).mono ?_
 rintro e w1 ⟨rfl,hb1⟩
 go_wp2_with fail
 refine(D1.out _).mono ?_
 rintro e w2 ⟨rfl,hb2⟩
 go_wp2_with fail
 refine(D2.out _).mono ?_
 rintro e w3 ⟨rfl,hb3⟩
 go_wp2_with fail
 go_ret
 have h2:=hb1.trans (hb2.mono hb1.size)
 exact⟨rfl,h2.trans (hb3.mono h2.size)⟩
theorem znp (q:Rat) (h:okQ q) (w:World) (hw:Wd w):
 Calls Tryz.prog 94 #[St (numS q)] w λe w'=>e=.returned (.int .i64 (max (digs q.num:Int) (digs (q.den:Int):Nat)))/\Below w.heap.size w w':=
 zw3 _ (itoa q.num) (decDigits q.den) _ _ w (hid hw) (hid λW hW=>zk5 q h W hW) (hid λW=>zkh q.num W) (hid λW=>by have:=zkh (q.den:Int) W;rwa [Str.zad] at this)
end Go.Proofs.YtbjomkfgicffhaaGreatDoor
namespace Go.Proofs.YtbjomkfgicffhaaGreatDoor
open Go.RowKit Go.Shelf
attribute [local go_sem] Oper.semAt_some
def MkAt (mk:Option Nat) (W:World):Prop:=∀D,mk=some D->W.heap[D]? =some (.deferred (some []))
section
variable {F:Fence} {n:Nat} {P:Program} {g:Operand} {ps:Array Tmp} {assign body:Code} {Q:Exit->Act->World->Prop} {a:Act} {w:World} {gf:Nat} {lb:Array Value}
 {Rd:World->Prop} {R:Nat->Array Value->Prop} {len:Nat}
theorem znq (h1:1<=n) (hg:a.eval g=.func (.func gf) #[] lb) (hFg:F.fn gf) (eg:∀args w,(callFunc gf args).run P w=.ok (.enter gf args) w)
 (hseq:IterC F (n-1) P gf lb Rd R len) (hps:∀k args,R k args->args.size=ps.size)
 {B:Nat} (hB:B<=w.heap.size) (I:Nat->World->Prop) (Ix:Code->Nat->World->Prop) (hI:∀k W W',I k W->CellsKept W W'->Below B W W'->I k W') (hIx:∀c k W W',Ix c k W->CellsKept W W'->Below B W W'->Ix c k W')
 (hRd:∀k W,I k W->Rd W) (h0:I 0 w)
 (Ax:Nat->Array Value->Act->World->Prop) (hAx:∀k args a' W W',Ax k args a' W->CellsKept W W'->Below B W W'->Ax k args a' W')
 (zl:Nat) (mark:List Deferred) (mk:Option Nat) (w1:FuncId->World) (dd:Nat)
 (hent:∀fn,(Instr.enterLoop fn a.tmps ps assign body F.round).run P w=.ok (zl,mark) (w1 fn))
 (hrec:∀fn,(w1 fn).heap[zl]? =some (.loop {state:=.ready,pending:=none,fn,tmps:=a.tmps,params:=ps,assign,body,defers:=dd}))
 (hzl:w.heap.size<=zl) (hmk:∀D,mk=some D->w.heap.size<=D/\D≠zl) (hmk1:∀fn,MkAt mk (w1 fn)) (hstart:∀fn,Below w.heap.size w (w1 fn)) (hck:∀fn,CellsKept w (w1 fn))
 (hassign:∀(l k:Nat) (args:Array Value) (W:World) (K:Act->World->Prop),w.heap.size<=l->(∃r,W.heap[l]? =some (.loop r))->I k W->k<len->R k args->
   (∀a' W',KeepsFrom w.heap.size W W'->I k W'->Ax k args a' W'->K a' W')->
   assign.wpIn (F.inRound l) (n-1-1) P (Exit.then K (λ_ _ _=>False)) {tmps:=(ps.zip args).foldl (λt (p,v)=>t.setIfInBounds p v) a.tmps,defers:=[]} W)
 (hbody:∀(l k:Nat) (args:Array Value) (a':Act) (W:World),w.heap.size<=l->(∃r,W.heap[l]? =some (.loop r))->I k W->k<len->R k args->Ax k args a' W->body.wpIn (F.inRound l) (n-1-1) P (zja w.heap.size I Ix k W) a' W)
 (hdone:∀(W:World),I len W->MkAt mk W->Q .normal {a with defers:=mark++a.defers} W)
 (hstop:∀(c:Code) (k:Nat) (W:World),Ix c k W->MkAt mk W->c.wpIn F n P Q {a with defers:=mark++a.defers} W):
 (Code.rangeFunc g ps assign body).wpIn F n P Q a w:=by
 refine wpIn_rangeFunc λfn hfn=>?_
 let rec':LoopState->Option Code->Obj:=λst pe=>.loop {state:=st,pending:=pe,fn,tmps:=a.tmps,params:=ps,assign,body,defers:=dd}
 let bk:LoopState->Option Code->World->Prop:=λst pe W=>W.heap[zl]? =some (rec' st pe)/\MkAt mk W
 have hturn:∀st pe st' pe' W,bk st pe W->bk st' pe' (W.putObj zl (rec' st' pe')):=λst pe st' pe' W h=>
  ⟨World.putObj_heap_same (Array.getElem?_eq_some_iff.1 h.1).1,λD hD=>(World.putObj_heap_other (hmk D hD).2).trans (h.2 D hD)⟩
 refine⟨zl,mark,w1 fn,{target:=.fn (.func gf) lb,args:= #[.func (.yield zl) #[] #[]]},w1 fn,gf,#[.func (.yield zl) #[] #[]]++lb,w1 fn,hent fn,?_,?_,?_,λ_=>h1,?_⟩
 ·simp only[resolve,hg]
  simp[go_sem]
 ·intro f' hf';simp[Target.leads] at hf';subst hf';exact hFg
 ·simp[invoke,go_sem,eg]
 refine(hseq zl (λk W=>I k W/\bk .ready none W) (λW=>∃c k,Ix c k W/\bk .done (some c) W) _ (λk W1 h=>hRd k W1 h.1) (λk W1 W2 h hb=>?_) ?_ ?_).mono ?_
 ·exact⟨hI k W1 W2 h.1 (zac hb) (hb.mono (by have:=(Array.getElem?_eq_some_iff.1 h.2.1).1;omega)),
   (hb.block _ (Array.getElem?_eq_some_iff.1 h.2.1).1).trans h.2.1,λD hD=>(hb.block _ (Array.getElem?_eq_some_iff.1 (h.2.2 D hD)).1).trans (h.2.2 D hD)⟩
 ·rintro k args W ⟨hi,hbW⟩ hk hR
  have hy:=run_yield (P:=P) (args:=args) hbW.1 (hps k args hR)
  refine⟨fn,_,assign,body,hy,roundIn_of_wpIn hfn (hassign _ k args W _ hzl ⟨_,hbW.1⟩ hi hk hR ?_)⟩
  intro a' W2 hk2 hi2 hax2
  have hbW2:bk .ready none W2:=⟨hk2.same _ _ hzl hbW.1 rfl,λD hD=>hk2.same _ _ (hmk D hD).1 (hbW.2 D hD) rfl⟩
  refine⟨_,run_beginRound hbW2.1 rfl,?_⟩
  have hb2:bk .busy none (W2.putObj zl (rec' .busy none)):=hturn _ _ _ _ _ hbW2
  have hc2:=zcw (rec' .busy none) hbW2.1 rfl
  have hl2:=zcx (B:=B) (rec' .busy none) hbW2.1 (by omega)
  refine wpIn_mono (hbody _ k args a' _ hzl ⟨_,hb2.1⟩ (hI k _ _ hi2 hc2 hl2) hk hR (hAx k args a' _ _ hax2 hc2 hl2)) ?_
  have fin:∀(jump:Option Code) (W3:World),KeepsFrom w.heap.size (W2.putObj zl (rec' .busy none)) W3->
   (Instr.endRound zl jump).run P W3=.ok (.bool jump.isNone) (W3.putObj zl (rec' (if jump.isNone then .ready else .done) jump))/\
   CellsKept W3 (W3.putObj zl (rec' (if jump.isNone then .ready else .done) jump))/\Below B W3 (W3.putObj zl (rec' (if jump.isNone then .ready else .done) jump))/\
   bk (if jump.isNone then .ready else .done) jump (W3.putObj zl (rec' (if jump.isNone then .ready else .done) jump)):=λjump W3 hk3=>by
   have hb3:bk .busy none W3:=⟨hk3.same _ _ hzl hb2.1 rfl,λD hD=>hk3.same _ _ (hmk D hD).1 (hb2.2 D hD) rfl⟩
   exact⟨run_endRound jump hb3.1,zcw _ hb3.1 rfl,zcx _ hb3.1 (by omega),hturn _ _ _ _ _ hb3⟩
  rintro e a3 W3 hp
  cases e with
  |normal=>
   obtain⟨hk3,hi3⟩:=hp
   obtain⟨hr,hc,hbl,hb4⟩:=fin none W3 hk3
   exact⟨_,_,hr,.inl ⟨rfl,hI _ _ _ hi3 hc hbl,hb4⟩⟩
  |ret=>
   obtain⟨hk3,hi3⟩:=hp
   obtain⟨hr,hc,hbl,hb4⟩:=fin (some .ret) W3 hk3
   exact⟨_,_,hr,.inr ⟨rfl,_,_,hIx _ _ _ _ hi3 hc hbl,hb4⟩⟩
  |exit id=>
   obtain⟨hk3,hi3⟩:=hp
   obtain⟨hr,hc,hbl,hb4⟩:=fin (some (.exit id)) W3 hk3
   exact⟨_,_,hr,.inr ⟨rfl,_,_,hIx _ _ _ _ hi3 hc hbl,hb4⟩⟩
  |goto t=>
   obtain⟨hk3,hi3⟩:=hp
   obtain⟨hr,hc,hbl,hb4⟩:=fin (some (.goto t)) W3 hk3
   exact⟨_,_,hr,.inr ⟨rfl,_,_,hIx _ _ _ _ hi3 hc hbl,hb4⟩⟩
  |panic ch=>exact hp.elim
  |outgrown=>exact hp.elim
 ·exact⟨hI 0 _ _ h0 (hck fn) ((hstart fn).mono hB),hrec fn,hmk1 fn⟩
 ·rintro e W2 ⟨⟨v,rfl⟩,(⟨hi,hb4⟩|⟨c,k,hi,hb4⟩)⟩
  ·exact⟨none,_,run_endLoop hb4.1 (by simp),hdone _ (hI _ _ _ hi (zcw _ hb4.1 rfl) (zcx _ hb4.1 (by omega))) (λD hD=>(World.putObj_heap_other (hmk D hD).2).trans (hb4.2 D hD))⟩
  ·exact⟨some c,_,run_endLoop hb4.1 (by simp),hstop c k _ (hIx _ _ _ _ hi (zcw _ hb4.1 rfl) (zcx _ hb4.1 (by omega))) (λD hD=>(World.putObj_heap_other (hmk D hD).2).trans (hb4.2 D hD))⟩
theorem zfq (hro:F.round=none) (h1:1<=n) (hg:a.eval g=.func (.func gf) #[] lb) (hFg:F.fn gf) (eg:∀args w,(callFunc gf args).run P w=.ok (.enter gf args) w)
 (hseq:IterC F (n-1) P gf lb Rd R len) (hps:∀k args,R k args->args.size=ps.size)
 {B:Nat} (hB:B<=w.heap.size) (I:Nat->World->Prop) (Ix:Code->Nat->World->Prop) (hI:∀k W W',I k W->CellsKept W W'->Below B W W'->I k W') (hIx:∀c k W W',Ix c k W->CellsKept W W'->Below B W W'->Ix c k W')
 (hRd:∀k W,I k W->Rd W) (h0:I 0 w)
 (Ax:Nat->Array Value->Act->World->Prop) (hAx:∀k args a' W W',Ax k args a' W->CellsKept W W'->Below B W W'->Ax k args a' W')
 (hassign:∀(l k:Nat) (args:Array Value) (W:World) (K:Act->World->Prop),w.heap.size<=l->(∃r,W.heap[l]? =some (.loop r))->I k W->k<len->R k args->
   (∀a' W',KeepsFrom w.heap.size W W'->I k W'->Ax k args a' W'->K a' W')->
   assign.wpIn (F.inRound l) (n-1-1) P (Exit.then K (λ_ _ _=>False)) {tmps:=(ps.zip args).foldl (λt (p,v)=>t.setIfInBounds p v) a.tmps,defers:=[]} W)
 (hbody:∀(l k:Nat) (args:Array Value) (a':Act) (W:World),w.heap.size<=l->(∃r,W.heap[l]? =some (.loop r))->I k W->k<len->R k args->Ax k args a' W->body.wpIn (F.inRound l) (n-1-1) P (zja w.heap.size I Ix k W) a' W)
 (hdone:∀(D:Nat) (W:World),w.heap.size<=D->I len W->W.heap[D]? =some (.deferred (some []))->Q .normal {a with defers:={target:=.collected D,args:= #[]}::a.defers} W)
 (hstop:∀(D:Nat) (c:Code) (k:Nat) (W:World),w.heap.size<=D->Ix c k W->W.heap[D]? =some (.deferred (some []))->c.wpIn F n P Q {a with defers:={target:=.collected D,args:= #[]}::a.defers} W):
 (Code.rangeFunc g ps assign body).wpIn F n P Q a w:=by
 have hst:∀o,Below w.heap.size w ((w.alloc (.deferred (some []))).alloc o):=λo=>((Below.refl _ w).alloc (Nat.le_refl _) _).alloc (by simp) _
 refine znq h1 hg hFg eg hseq hps hB I Ix hI hIx hRd h0 Ax hAx (w.heap.size+1) [{target:=.collected w.heap.size,args:= #[]}] (some w.heap.size) (λfn=>(w.alloc (.deferred (some []))).alloc (.loop {state:=.ready,pending:=none,fn,tmps:=a.tmps,params:=ps,assign,body,defers:=w.heap.size})) w.heap.size
  (λfn=>by rw[hro];exact run_enterLoop_outer _ _ _ _ _) (λfn=>?_) (by omega) (λD hD=>by cases hD;omega) (λfn D hD=>?_) (λfn=>hst _) (λfn=>zac (hst _)) hassign hbody (λW hi hm=>hdone _ W (Nat.le_refl _) hi (hm _ rfl)) (λc k W hi hm=>hstop _ c k W (Nat.le_refl _) hi (hm _ rfl))
 ·have:=World.alloc_heap_new (w.alloc (.deferred (some []))) (.loop {state:=.ready,pending:=none,fn,tmps:=a.tmps,params:=ps,assign,body,defers:=w.heap.size});rwa [World.size_alloc] at this
 ·cases hD;exact(Below.heap_alloc _ _ _ (by simp)).trans (World.alloc_heap_new w _)
theorem zs7 {l₀:Nat} {r₀:Loop} (hro:F.round=some l₀) (hl:w.heap[l₀]? =some (.loop r₀)) (h1:1<=n) (hg:a.eval g=.func (.func gf) #[] lb) (hFg:F.fn gf) (eg:∀args w,(callFunc gf args).run P w=.ok (.enter gf args) w)
 (hseq:IterC F (n-1) P gf lb Rd R len) (hps:∀k args,R k args->args.size=ps.size)
 {B:Nat} (hB:B<=w.heap.size) (I:Nat->World->Prop) (Ix:Code->Nat->World->Prop) (hI:∀k W W',I k W->CellsKept W W'->Below B W W'->I k W') (hIx:∀c k W W',Ix c k W->CellsKept W W'->Below B W W'->Ix c k W')
 (hRd:∀k W,I k W->Rd W) (h0:I 0 w)
 (Ax:Nat->Array Value->Act->World->Prop) (hAx:∀k args a' W W',Ax k args a' W->CellsKept W W'->Below B W W'->Ax k args a' W')
 (hassign:∀(l k:Nat) (args:Array Value) (W:World) (K:Act->World->Prop),w.heap.size<=l->(∃r,W.heap[l]? =some (.loop r))->I k W->k<len->R k args->
   (∀a' W',KeepsFrom w.heap.size W W'->I k W'->Ax k args a' W'->K a' W')->
   assign.wpIn (F.inRound l) (n-1-1) P (Exit.then K (λ_ _ _=>False)) {tmps:=(ps.zip args).foldl (λt (p,v)=>t.setIfInBounds p v) a.tmps,defers:=[]} W)
 (hbody:∀(l k:Nat) (args:Array Value) (a':Act) (W:World),w.heap.size<=l->(∃r,W.heap[l]? =some (.loop r))->I k W->k<len->R k args->Ax k args a' W->body.wpIn (F.inRound l) (n-1-1) P (zja w.heap.size I Ix k W) a' W)
 (hdone:∀(W:World),I len W->Q .normal a W) (hstop:∀(c:Code) (k:Nat) (W:World),Ix c k W->c.wpIn F n P Q a W):
 (Code.rangeFunc g ps assign body).wpIn F n P Q a w:=by
 have hst:∀o,Below w.heap.size w (w.alloc o):=λo=>(Below.refl _ w).alloc (Nat.le_refl _) _
 refine znq h1 hg hFg eg hseq hps hB I Ix hI hIx hRd h0 Ax hAx w.heap.size [] none (λfn=>w.alloc (.loop {state:=.ready,pending:=none,fn,tmps:=a.tmps,params:=ps,assign,body,defers:=r₀.defers})) r₀.defers
  (λfn=>by rw[hro];exact run_enterLoop_inner hl _ _ _ _ _) (λfn=>World.alloc_heap_new w _) (Nat.le_refl _) (λD hD=>by cases hD) (λfn D hD=>by cases hD) (λfn=>hst _) (λfn=>zac (hst _)) hassign hbody (λW hi _=>hdone W hi) (λc k W hi _=>hstop c k W hi)
theorem IterC.inRound (l:Nat) (h:IterC F n P gf lb Rd R len):IterC (F.inRound l) n P gf lb Rd R len:=h
end
end Go.Proofs.YtbjomkfgicffhaaGreatDoor
