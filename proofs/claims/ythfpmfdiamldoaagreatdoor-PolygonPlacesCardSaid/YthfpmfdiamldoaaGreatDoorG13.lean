/- polygon.checkNum, checkPoint. -/
import Derived.Test.YthfpmfdiamldoaaGreatDoorG12
set_option maxRecDepth 100000
set_option maxHeartbeats 8000000
open Go renaming World → zA
open Go.RowKit renaming Below → zB, intOf → zL
open Go.Lib renaming decDigits → zD, itoa → zE
open Go.Proofs.Tryz renaming prog → zF
open Go.World renaming alloc_heap_new → zG, size_alloc → zH
open Go.IntWalk renaming i64_in → zI
open Go.Joins renaming cell_of_block → zJ
open Go.RowKit.Below renaming refl → zM
open Nat renaming le_refl → zN, le_trans → zO, zero_le → zR, lt_of_lt_of_le → zS, pos_of_ne_zero → yS
namespace Go.Proofs.YthfpmfdiamldoaaGreatDoor
section
open Go.RowKit Go.Shelf Lib Str Limb Geo
attribute [local go_sem] Oper.semAt_some
theorem z22 (x:ByteArray) (u v t:ByteArray) (b:Bool) (hb:decide ((36:Int)<max (t.size:Int) (v.size:Int))=b)
 (T:Hid (⟨(trimPrefix u.data.toList [45]).toArray⟩=t))
 (PA:Hid (qK 26 #[.string x] (.tuple #[.string u,.string v,.int .i64 0]))) (w:zA) (HW:Hid (Wd w)):
 qJ 81 #[.string x] w (.int .i64 (if b then 4 else 0)):=by
 cases b
 all_goals (
 simp only[Bool.false_eq_true,if_false,if_true]
 go_enter Tryz.func81,Tryz.ntmps81
 go_wp2_with fail
 refine(PA.out _ HW.out).mono ?_
 rintro e w1 ⟨rfl,hB⟩
 go_wp2_with fail
 refine(Tryz.strings_TrimPrefix _ _ _).mono ?_
 rintro e w' ⟨rfl,rfl⟩
 simp only[T.out]
 go_wp2_with fail
 go_ret
 exact⟨rfl,hB⟩)
theorem z3g (x:Int) (n:Nat) (_ v t:ByteArray) (hv:v=⟨(zD n).toArray⟩) (ht:t=⟨(zD x.natAbs).toArray⟩) (b:Bool) (hb:(if digs x<=36/\(zD n).length<=36 then(0:Int) else 4)=if b then 4 else 0):
 decide ((36:Int)<max (t.size:Int) (v.size:Int))=b:=by
 have e1:t.size=digs x:=by rw[ht];show(zD x.natAbs).toArray.size=_;simp[digs]
 have e2:v.size=(zD n).length:=by rw[hv];show(zD n).toArray.size=_;simp
 rw[e1,e2]
 cases b
 ·rw[decide_eq_false_iff_not]
  by_cases h:digs x<=36/\(zD n).length<=36
  ·omega
  ·rw[if_neg h] at hb;simp at hb
 ·rw[decide_eq_true_iff]
  by_cases h:digs x<=36/\(zD n).length<=36
  ·rw[if_pos h] at hb;simp at hb
  ·omega
def numE (q:Rat):Int:=if digs q.num<=36/\(zD q.den).length<=36 then 0 else 4
theorem zl9 (q:Rat) (h:okQ q) (w:zA) (hw:Wd w):
 qJ 81 #[St (numS q)] w (.int .i64 (numE q)):=by
 obtain⟨b,hb⟩:∃b:Bool,numE q=if b then 4 else 0:=by
  unfold numE
  by_cases h:digs q.num<=36/\(zD q.den).length<=36
  ·exact⟨false,by rw[if_pos h];rfl⟩
  ·exact⟨true,by rw[if_neg h];rfl⟩
 rw[hb]
 refine z22 _ ⟨(zE q.num).toArray⟩ ⟨(zD q.den).toArray⟩ _ b ?_ (hid rfl) (hid λW hW=>zk5 q h W hW) w (hid hw)
 exact z3g q.num q.den ⟨(zE q.num).toArray⟩ _ _ rfl (by rw[<-zbi]) b hb
structure PtS (w:zA) (x y:List UInt8) (W:zA):Prop where
 bel:qL w W
 lt:w.heap.size<W.heap.size
 hp:W.heap[w.heap.size]? =some (.cells #[St x,St y] 25 (0,0))
theorem PtS.next {w:zA} {x y:List UInt8} {W W':zA} (h:PtS w x y W) (hb:qL W W'):PtS w x y W':=
 ⟨h.bel.trans (hb.mono h.bel.size),zS h.lt hb.size,(hb.block _ h.lt).trans h.hp⟩
theorem PtS.c0 {w:zA} {x y:List UInt8} {W:zA} (h:PtS w x y W):W.cell? ⟨w.heap.size,0,none⟩=some (St x):=by have:=h.hp;simp[World.cell?,this]
theorem PtS.c1 {w:zA} {x y:List UInt8} {W:zA} (h:PtS w x y W):W.cell? ⟨w.heap.size,1,none⟩=some (St y):=by have:=h.hp;simp[World.cell?,this]
theorem zri (x y:List UInt8) (m n:Int)
 (CX:Hid (qK 80 #[St x] (.int .i64 0)))
 (CY:Hid (qK 80 #[St y] (.int .i64 0)))
 (NX:Hid (qK 81 #[St x] (.int .i64 m)))
 (NY:Hid (qK 81 #[St y] (.int .i64 n)))
 (w:zA) (HW:Hid (Wd w)):
 qJ 31 #[.agg #[St x,St y]] w (.int .i64 (max m n)):=by
 have hinit:PtS w x y (w.alloc (.cells #[St x,St y] 25)):=⟨(zM _ w).alloc (zN _) _,by simp,zG w _⟩
 obtain⟨W1,hW1⟩:∃W1,W1=w.alloc (.cells #[St x,St y] 25):=⟨_,rfl⟩
 rw[<-hW1] at hinit
 have i0:=hinit.c0;have i1:=hinit.c1
 rw[hW1] at i0 i1
 have HI:=hid hinit;clear hinit
 have HW1:=hid hW1;clear hW1
 have x0:∀w:zA,(Instr.index 116 (.agg #[St x,St y]) (.int .i64 0)).run zF w=.ok (St x) w:=λ_=>by kernel_rfl
 have x1:∀w:zA,(Instr.index 116 (.agg #[St x,St y]) (.int .i64 1)).run zF w=.ok (St y) w:=λ_=>by kernel_rfl
 go_enter Tryz.func31,Tryz.ntmps31
 go_wp2_with fail
 rw[<-HW1.out]
 clear i0 i1
 refine wp_loop_rounds 3 ?_
 rw[rounds_succ]
 go_wp2_with fail
 refine(CX.out _ (HW.out.below HI.out.bel)).mono ?_
 rintro e W2 ⟨rfl,hb2⟩
 have H2:=hid (HI.out.next hb2);clear HI hb2
 go_wp2_with fail
 rw[rounds_succ]
 go_wp2_with fail
 refine(CY.out _ (HW.out.below H2.out.bel)).mono ?_
 rintro e W3 ⟨rfl,hb3⟩
 have H3:=hid (H2.out.next hb3);clear H2 hb3
 go_wp2_with fail
 rw[rounds_succ]
 go_wp2_with fail
 refine zbl (λ_ W=>PtS w x y W) (by kernel_rfl) (by kernel_rfl) (by have h:=H3.out;exact h.next (zM _ _).drew) ?_
 refine qR (.pointer (some ⟨w.heap.size,0,none⟩)) ?_
 simp only[zzQ]
 refine qR (St x) ?_ (hy:=λf W' hf h=>by have h0:=h.c0;go_simp)
 simp only[zzQ]
 refine zar (.int .i64 m) (by rfl) (λf W' hf h C' hC'=>by
  go_simp
  refine(NX.out _ (HW.out.below h.bel)).mono ?_
  rintro e w' ⟨rfl,hb⟩
  exact⟨rfl,hC' _ (h.next hb)⟩) ?_
 try simp only[zzQ]
 refine qR (.pointer (some ⟨w.heap.size,1,none⟩)) ?_
 simp only[zzQ]
 refine qR (St y) ?_ (hy:=λf W' hf h=>by have h0:=h.c1;go_simp)
 simp only[zzQ]
 refine zar (.int .i64 n) (by rfl) (λf W' hf h C' hC'=>by
  go_simp
  refine(NY.out _ (HW.out.below h.bel)).mono ?_
  rintro e w' ⟨rfl,hb⟩
  exact⟨rfl,hC' _ (h.next hb)⟩) ?_
 try simp only[zzQ]
 refine qR (.int .i64 (max m n)) ?_
 simp only[zzQ]
 refine qR (.int .i64 (max m n)) ?_
 simp only[zzQ]
 refine zck λf W4 hf h=>?_
 have hB:=h.bel
 clear h hf f H3
 go_wp2_with fail
 go_ret
 exact⟨rfl,hB⟩
def ptE (p:Pt):Int:=max (numE p.x) (numE p.y)
theorem zp6 (p:Pt) (hx:okQ p.x) (hy:okQ p.y) (w:zA) (hw:Wd w):
 qJ 31 #[ptV p] w (.int .i64 (ptE p)):=
 zri _ _ _ _ (hid λW hW=>zfj p.x hx W hW) (hid λW hW=>zfj p.y hy W hW) (hid λW hW=>zl9 p.x hx W hW) (hid λW hW=>zl9 p.y hy W hW) w (hid hw)
theorem zok {q:Rat} {k:Nat} (hk:0<k) (h:sz q k):digs q.num<=k/\(zD q.den).length<=k:=⟨(za3 _ _ hk).2 h.1,(zaf _ _ hk).2 h.2⟩
theorem zt2 {q:Rat} (h:sz q 36):numE q=0:=if_pos (zok (by omega) h)
theorem zw2 {q:Rat} (h:sz q 36):okQ q:=let h:=zok (by omega) h;⟨zO h.1 (by omega),zO h.2 (by omega)⟩
theorem zdi (p:Pt) (h:szP p 36) (w:zA) (hw:Wd w):
 qJ 31 #[ptV p] w (.int .i64 0):=by
 have:=zp6 p (zw2 h.1) (zw2 h.2) w hw
 rwa [show ptE p=0 by unfold ptE;rw[zt2 h.1,zt2 h.2];rfl] at this
theorem zol (a b c d:Pt) (k:Nat) (hk:0<k) (hk2:8*k+4<=300) (ha:szP a k) (hb:szP b k) (hc:szP c k) (hd:szP d k) (w:zA) (hw:Wd w):
 qJ 33 #[segV a b,segV c d] w (.int .i64 (meet a b c d)):=by
 have TA:=hid λW hW=>zjg a b c k hk hk2 ha hb hc W hW
 have TB:=hid λW hW=>zjg a b d k hk hk2 ha hb hd W hW
 have TC:=hid λW hW=>zjg c d a k hk hk2 hc hd ha W hW
 have TD:=hid λW hW=>zjg c d b k hk hk2 hc hd hb W hW
 have r:∀x y z:Pt, -1<=turn x y z/\turn x y z<=1:=λx y z=>by rcases znm x y z with h|h|h<;>omega
 by_cases hz:turn a b c=0/\turn a b d=0/\turn c d a=0/\turn c d b=0
 ·have hlow:∀x y:Pt,szP x k->szP y k->szP (low x y) k:=λx y hx hy=>by unfold low;split<;>assumption
  have hhigh:∀x y:Pt,szP x k->szP y k->szP (high x y) k:=λx y hx hy=>by unfold high;split<;>assumption
  have ho:∀x y:Pt, -1<=ordP x y/\ordP x y<=1:=λx y=>by rcases zas x y with h|h|h<;>omega
  have O:∀x y:Pt,szP x k->szP y k->Hid (qK 85 #[ptV x,ptV y] (.int .i64 (ordP x y))):=λx y hx hy=>hid λW hW=>zmy x y k k hk hk (by omega) hx hy W hW
  rw[hz.1] at TA;rw[hz.2.1] at TB;rw[hz.2.2.1] at TC;rw[hz.2.2.2] at TD
  have LS:=hid λW hW=>zwy a b k hk hk2 ha hb W hW
  have HS:=hid λW hW=>zt0 a b k hk hk2 ha hb W hW
  have LT:=hid λW hW=>zwy c d k hk hk2 hc hd W hW
  have HT:=hid λW hW=>zt0 c d k hk hk2 hc hd W hW
  obtain⟨c1,e1⟩:∃c1,decide (0<ordP (low c d) (low a b))=c1:=⟨_,rfl⟩
  obtain⟨c2,e2⟩:∃c2,decide (ordP (high c d) (high a b)<0)=c2:=⟨_,rfl⟩
  have em:meet a b c d=1-ordP (if c1 then low c d else low a b) (if c2 then high c d else high a b):=by
   unfold meet
   rw[if_neg (by simp[hz])]
   subst e1;subst e2
   simp only[decide_eq_true_eq]
  rw[em]
  have O3:=O (if c1 then low c d else low a b) (if c2 then high c d else high a b) (by split;exact hlow _ _ hc hd;exact hlow _ _ ha hb) (by split;exact hhigh _ _ hc hd;exact hhigh _ _ ha hb)
  refine zw1 _ _ _ _ _ _ _ _ _ _ _ _ _ _ _ _ (ordP (low c d) (low a b)) (ordP (high c d) (high a b)) _ c1 c2 e1 e2 (ho _ _) TA TB TC TD LS HS LT HT (O _ _ (hlow _ _ hc hd) (hlow _ _ ha hb)) (O _ _ (hhigh _ _ hc hd) (hhigh _ _ ha hb)) ?_ w (hid hw)
  cases c1<;>cases c2<;>exact O3
 ·refine zu6 _ _ _ _ _ _ _ _ _ _ _ _ _ TA TB TC TD (r _ _ _) (r _ _ _) (r _ _ _) (r _ _ _) hz ?_ w (hid hw)
  unfold meet
  rw[if_pos (by omega)]
structure FourS (w:zA) (x1 y1 x2 y2 x3 y3 x4 y4:List UInt8) (W:zA):Prop where
 bel:qL w W
 lt:w.heap.size+3<W.heap.size
 h1:W.heap[w.heap.size]? =some (.cells #[St x1,St y1] 25 (0,0))
 h2:W.heap[w.heap.size+1]? =some (.cells #[St x2,St y2] 25 (0,0))
 h3:W.heap[w.heap.size+2]? =some (.cells #[St x3,St y3] 25 (0,0))
 h4:W.heap[w.heap.size+3]? =some (.cells #[St x4,St y4] 25 (0,0))
theorem FourS.next {w:zA} {x1 y1 x2 y2 x3 y3 x4 y4:List UInt8} {W W':zA} (h:FourS w x1 y1 x2 y2 x3 y3 x4 y4 W) (hb:qL W W'):FourS w x1 y1 x2 y2 x3 y3 x4 y4 W':=
 have hl:=h.lt
 ⟨h.bel.trans (hb.mono h.bel.size),zS h.lt hb.size,(hb.block _ (by omega)).trans h.h1,(hb.block _ (by omega)).trans h.h2,(hb.block _ (by omega)).trans h.h3,(hb.block _ (by omega)).trans h.h4⟩
theorem FourS.cells {w:zA} {x1 y1 x2 y2 x3 y3 x4 y4:List UInt8} {W:zA} (h:FourS w x1 y1 x2 y2 x3 y3 x4 y4 W):
 W.cell? ⟨w.heap.size,0,none⟩=some (St x1)/\W.cell? ⟨w.heap.size,1,none⟩=some (St y1)/\W.cell? ⟨w.heap.size+1,0,none⟩=some (St x2)/\W.cell? ⟨w.heap.size+1,1,none⟩=some (St y2)/\
 W.cell? ⟨w.heap.size+2,0,none⟩=some (St x3)/\W.cell? ⟨w.heap.size+2,1,none⟩=some (St y3)/\W.cell? ⟨w.heap.size+3,0,none⟩=some (St x4)/\W.cell? ⟨w.heap.size+3,1,none⟩=some (St y4):=by
 have h1:=h.h1;have h2:=h.h2;have h3:=h.h3;have h4:=h.h4
 simp[World.cell?,h1,h2,h3,h4]
theorem FourS.start (w:zA) (x1 y1 x2 y2 x3 y3 x4 y4:List UInt8):
 FourS w x1 y1 x2 y2 x3 y3 x4 y4 ((((w.alloc (.cells #[St x1,St y1] 25)).alloc (.cells #[St x2,St y2] 25)).alloc (.cells #[St x3,St y3] 25)).alloc (.cells #[St x4,St y4] 25)):=by
 refine⟨((((zM _ w).alloc (zN _) _).alloc (by simp) _).alloc (by simp;omega) _).alloc (by simp;omega) _,by simp,?_,?_,?_,?_⟩
 ·exact(Below.heap_alloc _ _ _ (by simp;omega)).trans ((Below.heap_alloc _ _ _ (by simp;omega)).trans ((Below.heap_alloc _ _ _ (by simp)).trans (zG w _)))
 ·have:=zG (w.alloc (.cells #[St x1,St y1] 25)) (.cells #[St x2,St y2] 25)
  rw[zH] at this
  exact(Below.heap_alloc _ _ _ (by simp)).trans ((Below.heap_alloc _ _ _ (by simp)).trans this)
 ·have:=zG ((w.alloc (.cells #[St x1,St y1] 25)).alloc (.cells #[St x2,St y2] 25)) (.cells #[St x3,St y3] 25)
  simp only[zH] at this
  exact(Below.heap_alloc _ _ _ (by simp)).trans this
 ·have:=zG (((w.alloc (.cells #[St x1,St y1] 25)).alloc (.cells #[St x2,St y2] 25)).alloc (.cells #[St x3,St y3] 25)) (.cells #[St x4,St y4] 25)
  simp only[zH] at this
  exact this
end
section
open Go.RowKit Go.Shelf Lib Str Limb
attribute [local go_sem] Oper.semAt_some
theorem zzg (x u v:List UInt8)
 (PA:Hid (qK 26 #[St x] (.tuple #[St u,St v,.int .i64 0]))) (w:zA) (HW:Hid (Wd w)):
 qJ 209 #[St x] w (.agg #[St u,St v]):=by
 obtain⟨W1,hW1⟩:∃W1,W1=w.alloc (.cells #[St [],St []] 230):=⟨_,rfl⟩
 have hb1:qL w W1:=by rw[hW1];exact(zM _ w).alloc (zN _) _
 have A1:W1.heap[w.heap.size]? =some (.cells #[St [],St []] 230 (0,0)):=by rw[hW1];exact zG w _
 have hz:W1.heap.size=w.heap.size+1:=by rw[hW1];simp
 have HW1:=hid hW1;clear hW1
 go_enter Tryz.func209,Tryz.ntmps209
 go_wp2_with fail
 have h9:=HW1.out
 rw[<-h9]
 clear h9
 refine(PA.out _ (HW.out.below hb1)).mono ?_
 rintro e w2 ⟨rfl,hb2⟩
 have hB2:=hb1.trans (hb2.mono hb1.size)
 have A2:w2.heap[w.heap.size]? =some (.cells #[St [],St []] 230 (0,0)):=(hb2.block _ (by omega)).trans A1
 have b0:w2.cell? ⟨w.heap.size,0,none⟩=some (St []):=by rw[zJ A2];rfl
 have b1:w2.cell? ⟨w.heap.size,1,none⟩=some (St []):=by rw[zJ A2];rfl
 have f0:w2.frozen? ⟨w.heap.size,0,none⟩=false:=Go.Joins.unfrozen_of_block A2 0
 have f1:w2.frozen? ⟨w.heap.size,1,none⟩=false:=Go.Joins.unfrozen_of_block A2 1
 clear A1 A2 hb2
 go_wp2_with fail
 refine bodyPost_ret (v:=.agg #[St u,St v]) (by simp[results,Tryz.results209,go_sem,b0,b1]) rfl ⟨rfl,?_⟩
 repeat(first|exact hB2|refine Below.setCell ?_ (by simp) _)
theorem zio (q:Rat) (h:okQ q) (w:zA) (hw:Wd w):
 qJ 209 #[St (numS q)] w (.agg #[St (zE q.num),St (zD q.den)]):=
 zzg _ _ _ (hid λW hW=>zk5 q h W hW) w (hid hw)
theorem zkh (x:Int) (w:zA):
 qJ 186 #[St (zE x)] w (.int .i64 (digs x:Nat)):=by
 obtain⟨t,ht⟩:∃t:ByteArray,t=⟨(trimPrefix (⟨(zE x).toArray⟩:ByteArray).data.toList [45]).toArray⟩:=⟨_,rfl⟩
 have hs:t.size=digs x:=by
  rw[ht];show(trimPrefix (zE x) [45]).toArray.size=_
  rw[zbi];simp[digs]
 rw[<-hs]
 have HT:=hid ht;clear ht hs
 show Calls _ _ #[.string ⟨(zE x).toArray⟩] _ _
 generalize (⟨(zE x).toArray⟩:ByteArray)=u at*
 go_enter Tryz.func186,Tryz.ntmps186
 go_wp2_with fail
 refine(Tryz.strings_TrimPrefix _ _ _).mono ?_
 rintro e w' ⟨rfl,hw1⟩
 have hw2:=hw1.symm;subst hw2
 have h9:=HT.out
 rw[<-show t=⟨(trimPrefix u.data.toList (⟨#[45]⟩:ByteArray).data.toList).toArray⟩ from h9]
 clear h9 hw1
 go_wp2_with fail
 go_ret
 exact⟨rfl,zM _ _⟩
theorem zw3 (x u v:List UInt8) (a b:Nat) (w:zA) (HW:Hid (Wd w))
 (PA:Hid (qK 26 #[St x] (.tuple #[St u,St v,.int .i64 0])))
 (D1:Hid (∀W:zA,qJ 186 #[St u] W (.int .i64 a)))
 (D2:Hid (∀W:zA,qJ 186 #[St v] W (.int .i64 b))):
 qJ 139 #[St x] w (.int .i64 (max (a:Int) b)):=by
 go_enter Tryz.func139,Tryz.ntmps139
 go_wp2_with fail
 refine(PA.out _ HW.out).mono ?_
 rintro e w1 ⟨rfl,hb1⟩
 go_wp2_with fail
 refine(D1.out _).mono ?_
 rintro e w2 ⟨rfl,hb2⟩
 go_wp2_with fail
 refine(D2.out _).mono ?_
 rintro e w3 ⟨rfl,hb3⟩
 go_wp2_with fail
 go_ret
 have h2:=hb1.trans (hb2.mono hb1.size)
 exact⟨rfl,h2.trans (hb3.mono h2.size)⟩
theorem znp (q:Rat) (h:okQ q) (w:zA) (hw:Wd w):
 qJ 139 #[St (numS q)] w (.int .i64 (max (digs q.num:Int) (digs (q.den:Int):Nat))):=
 zw3 _ (zE q.num) (zD q.den) _ _ w (hid hw) (hid λW hW=>zk5 q h W hW) (hid λW=>zkh q.num W) (hid λW=>by have:=zkh (q.den:Int) W;rwa [Str.zad] at this)
end
section
open Go.RowKit Go.Shelf
attribute [local go_sem] Oper.semAt_some
def MkAt (mk:Option Nat) (W:zA):Prop:=∀D,mk=some D->W.heap[D]? =some (.deferred (some []))
section
variable {F:Fence} {n:Nat} {P:Program} {g:Operand} {ps:Array Tmp} {assign body:Code} {Q:Exit->Act->zA->Prop} {a:Act} {w:zA} {gf:Nat} {lb:Array Value}
 {Rd:zA->Prop} {R:Nat->Array Value->Prop} {len:Nat}
theorem znq (h1:1<=n) (hg:a.eval g=.func (.func gf) #[] lb) (hFg:F.fn gf) (eg:∀args w,(callFunc gf args).run P w=.ok (.enter gf args) w)
 (hseq:IterC F (n-1) P gf lb Rd R len) (hps:∀k args,R k args->args.size=ps.size)
 {B:Nat} (hB:B<=w.heap.size) (I:Nat->zA->Prop) (Ix:Code->Nat->zA->Prop) (hI:∀k W W',I k W->CellsKept W W'->zB B W W'->I k W') (hIx:∀c k W W',Ix c k W->CellsKept W W'->zB B W W'->Ix c k W')
 (hRd:∀k W,I k W->Rd W) (h0:I 0 w)
 (Ax:Nat->Array Value->Act->zA->Prop) (hAx:∀k args a' W W',Ax k args a' W->CellsKept W W'->zB B W W'->Ax k args a' W')
 (zl:Nat) (mark:List Deferred) (mk:Option Nat) (w1:FuncId->zA) (dd:Nat)
 (hent:∀fn,(Instr.enterLoop fn a.tmps ps assign body F.round).run P w=.ok (zl,mark) (w1 fn))
 (hrec:∀fn,(w1 fn).heap[zl]? =some (.loop {state:=.ready,pending:=none,fn,tmps:=a.tmps,params:=ps,assign,body,defers:=dd}))
 (hzl:w.heap.size<=zl) (hmk:∀D,mk=some D->w.heap.size<=D/\D≠zl) (hmk1:∀fn,MkAt mk (w1 fn)) (hstart:∀fn,qL w (w1 fn)) (hck:∀fn,CellsKept w (w1 fn))
 (hassign:∀(l k:Nat) (args:Array Value) (W:zA) (K:Act->zA->Prop),w.heap.size<=l->(∃r,W.heap[l]? =some (.loop r))->I k W->k<len->R k args->
   (∀a' W',KeepsFrom w.heap.size W W'->I k W'->Ax k args a' W'->K a' W')->
   assign.wpIn (F.inRound l) (n-1-1) P (Exit.then K (λ_ _ _=>False)) {tmps:=(ps.zip args).foldl (λt (p,v)=>t.setIfInBounds p v) a.tmps,defers:=[]} W)
 (hbody:∀(l k:Nat) (args:Array Value) (a':Act) (W:zA),w.heap.size<=l->(∃r,W.heap[l]? =some (.loop r))->I k W->k<len->R k args->Ax k args a' W->body.wpIn (F.inRound l) (n-1-1) P (zja w.heap.size I Ix k W) a' W)
 (hdone:∀(W:zA),I len W->MkAt mk W->Q .normal {a with defers:=mark++a.defers} W)
 (hstop:∀(c:Code) (k:Nat) (W:zA),Ix c k W->MkAt mk W->c.wpIn F n P Q {a with defers:=mark++a.defers} W):
 (Code.rangeFunc g ps assign body).wpIn F n P Q a w:=by
 refine wpIn_rangeFunc λfn hfn=>?_
 let rec':LoopState->Option Code->Obj:=λst pe=>.loop {state:=st,pending:=pe,fn,tmps:=a.tmps,params:=ps,assign,body,defers:=dd}
 let bk:LoopState->Option Code->zA->Prop:=λst pe W=>W.heap[zl]? =some (rec' st pe)/\MkAt mk W
 have hturn:∀st pe st' pe' W,bk st pe W->bk st' pe' (W.putObj zl (rec' st' pe')):=λst pe st' pe' W h=>
  ⟨World.putObj_heap_same (Array.getElem?_eq_some_iff.1 h.1).1,λD hD=>(World.putObj_heap_other (hmk D hD).2).trans (h.2 D hD)⟩
 refine⟨zl,mark,w1 fn,{target:=.fn (.func gf) lb,args:= #[.func (.yield zl) #[] #[]]},w1 fn,gf,#[.func (.yield zl) #[] #[]]++lb,w1 fn,hent fn,?_,?_,?_,λ_=>h1,?_⟩
 ·simp only[resolve,hg]
  simp[go_sem]
 ·intro f' hf';simp[Target.leads] at hf';subst hf';exact hFg
 ·simp[invoke,go_sem,eg]
 refine(hseq zl (λk W=>I k W/\bk .ready none W) (λW=>∃c k,Ix c k W/\bk .done (some c) W) _ (λk W1 h=>hRd k W1 h.1) (λk W1 W2 h hb=>?_) ?_ ?_).mono ?_
 ·exact⟨hI k W1 W2 h.1 (zac hb) (hb.mono (by have:=(Array.getElem?_eq_some_iff.1 h.2.1).1;omega)),
   (hb.block _ (Array.getElem?_eq_some_iff.1 h.2.1).1).trans h.2.1,λD hD=>(hb.block _ (Array.getElem?_eq_some_iff.1 (h.2.2 D hD)).1).trans (h.2.2 D hD)⟩
 ·rintro k args W ⟨hi,hbW⟩ hk hR
  have hy:=run_yield (P:=P) (args:=args) hbW.1 (hps k args hR)
  refine⟨fn,_,assign,body,hy,roundIn_of_wpIn hfn (hassign _ k args W _ hzl ⟨_,hbW.1⟩ hi hk hR ?_)⟩
  intro a' W2 hk2 hi2 hax2
  have hbW2:bk .ready none W2:=⟨hk2.same _ _ hzl hbW.1 rfl,λD hD=>hk2.same _ _ (hmk D hD).1 (hbW.2 D hD) rfl⟩
  refine⟨_,run_beginRound hbW2.1 rfl,?_⟩
  have hb2:bk .busy none (W2.putObj zl (rec' .busy none)):=hturn _ _ _ _ _ hbW2
  have hc2:=zcw (rec' .busy none) hbW2.1 rfl
  have hl2:=zcx (B:=B) (rec' .busy none) hbW2.1 (by omega)
  refine wpIn_mono (hbody _ k args a' _ hzl ⟨_,hb2.1⟩ (hI k _ _ hi2 hc2 hl2) hk hR (hAx k args a' _ _ hax2 hc2 hl2)) ?_
  have fin:∀(jump:Option Code) (W3:zA),KeepsFrom w.heap.size (W2.putObj zl (rec' .busy none)) W3->
   (Instr.endRound zl jump).run P W3=.ok (.bool jump.isNone) (W3.putObj zl (rec' (if jump.isNone then .ready else .done) jump))/\
   CellsKept W3 (W3.putObj zl (rec' (if jump.isNone then .ready else .done) jump))/\zB B W3 (W3.putObj zl (rec' (if jump.isNone then .ready else .done) jump))/\
   bk (if jump.isNone then .ready else .done) jump (W3.putObj zl (rec' (if jump.isNone then .ready else .done) jump)):=λjump W3 hk3=>by
   have hb3:bk .busy none W3:=⟨hk3.same _ _ hzl hb2.1 rfl,λD hD=>hk3.same _ _ (hmk D hD).1 (hb2.2 D hD) rfl⟩
   exact⟨run_endRound jump hb3.1,zcw _ hb3.1 rfl,zcx _ hb3.1 (by omega),hturn _ _ _ _ _ hb3⟩
  rintro e a3 W3 hp
  cases e with
  |normal=>
   obtain⟨hk3,hi3⟩:=hp
   obtain⟨hr,hc,hbl,hb4⟩:=fin none W3 hk3
   exact⟨_,_,hr,.inl ⟨rfl,hI _ _ _ hi3 hc hbl,hb4⟩⟩
  |ret=>
   obtain⟨hk3,hi3⟩:=hp
   obtain⟨hr,hc,hbl,hb4⟩:=fin (some .ret) W3 hk3
   exact⟨_,_,hr,.inr ⟨rfl,_,_,hIx _ _ _ _ hi3 hc hbl,hb4⟩⟩
  |exit id=>
   obtain⟨hk3,hi3⟩:=hp
   obtain⟨hr,hc,hbl,hb4⟩:=fin (some (.exit id)) W3 hk3
   exact⟨_,_,hr,.inr ⟨rfl,_,_,hIx _ _ _ _ hi3 hc hbl,hb4⟩⟩
  |goto t=>
   obtain⟨hk3,hi3⟩:=hp
   obtain⟨hr,hc,hbl,hb4⟩:=fin (some (.goto t)) W3 hk3
   exact⟨_,_,hr,.inr ⟨rfl,_,_,hIx _ _ _ _ hi3 hc hbl,hb4⟩⟩
  |panic ch=>exact hp.elim
  |outgrown=>exact hp.elim
 ·exact⟨hI 0 _ _ h0 (hck fn) ((hstart fn).mono hB),hrec fn,hmk1 fn⟩
 ·rintro e W2 ⟨⟨v,rfl⟩,(⟨hi,hb4⟩|⟨c,k,hi,hb4⟩)⟩
  ·exact⟨none,_,run_endLoop hb4.1 (by simp),hdone _ (hI _ _ _ hi (zcw _ hb4.1 rfl) (zcx _ hb4.1 (by omega))) (λD hD=>(World.putObj_heap_other (hmk D hD).2).trans (hb4.2 D hD))⟩
  ·exact⟨some c,_,run_endLoop hb4.1 (by simp),hstop c k _ (hIx _ _ _ _ hi (zcw _ hb4.1 rfl) (zcx _ hb4.1 (by omega))) (λD hD=>(World.putObj_heap_other (hmk D hD).2).trans (hb4.2 D hD))⟩
theorem zfq (hro:F.round=none) (h1:1<=n) (hg:a.eval g=.func (.func gf) #[] lb) (hFg:F.fn gf) (eg:∀args w,(callFunc gf args).run P w=.ok (.enter gf args) w)
 (hseq:IterC F (n-1) P gf lb Rd R len) (hps:∀k args,R k args->args.size=ps.size)
 {B:Nat} (hB:B<=w.heap.size) (I:Nat->zA->Prop) (Ix:Code->Nat->zA->Prop) (hI:∀k W W',I k W->CellsKept W W'->zB B W W'->I k W') (hIx:∀c k W W',Ix c k W->CellsKept W W'->zB B W W'->Ix c k W')
 (hRd:∀k W,I k W->Rd W) (h0:I 0 w)
 (Ax:Nat->Array Value->Act->zA->Prop) (hAx:∀k args a' W W',Ax k args a' W->CellsKept W W'->zB B W W'->Ax k args a' W')
 (hassign:∀(l k:Nat) (args:Array Value) (W:zA) (K:Act->zA->Prop),w.heap.size<=l->(∃r,W.heap[l]? =some (.loop r))->I k W->k<len->R k args->
   (∀a' W',KeepsFrom w.heap.size W W'->I k W'->Ax k args a' W'->K a' W')->
   assign.wpIn (F.inRound l) (n-1-1) P (Exit.then K (λ_ _ _=>False)) {tmps:=(ps.zip args).foldl (λt (p,v)=>t.setIfInBounds p v) a.tmps,defers:=[]} W)
 (hbody:∀(l k:Nat) (args:Array Value) (a':Act) (W:zA),w.heap.size<=l->(∃r,W.heap[l]? =some (.loop r))->I k W->k<len->R k args->Ax k args a' W->body.wpIn (F.inRound l) (n-1-1) P (zja w.heap.size I Ix k W) a' W)
 (hdone:∀(D:Nat) (W:zA),w.heap.size<=D->I len W->W.heap[D]? =some (.deferred (some []))->Q .normal {a with defers:={target:=.collected D,args:= #[]}::a.defers} W)
 (hstop:∀(D:Nat) (c:Code) (k:Nat) (W:zA),w.heap.size<=D->Ix c k W->W.heap[D]? =some (.deferred (some []))->c.wpIn F n P Q {a with defers:={target:=.collected D,args:= #[]}::a.defers} W):
 (Code.rangeFunc g ps assign body).wpIn F n P Q a w:=by
 have hst:∀o,qL w ((w.alloc (.deferred (some []))).alloc o):=λo=>((zM _ w).alloc (zN _) _).alloc (by simp) _
 refine znq h1 hg hFg eg hseq hps hB I Ix hI hIx hRd h0 Ax hAx (w.heap.size+1) [{target:=.collected w.heap.size,args:= #[]}] (some w.heap.size) (λfn=>(w.alloc (.deferred (some []))).alloc (.loop {state:=.ready,pending:=none,fn,tmps:=a.tmps,params:=ps,assign,body,defers:=w.heap.size})) w.heap.size
  (λfn=>by rw[hro];exact run_enterLoop_outer _ _ _ _ _) (λfn=>?_) (by omega) (λD hD=>by cases hD;omega) (λfn D hD=>?_) (λfn=>hst _) (λfn=>zac (hst _)) hassign hbody (λW hi hm=>hdone _ W (zN _) hi (hm _ rfl)) (λc k W hi hm=>hstop _ c k W (zN _) hi (hm _ rfl))
 ·have:=zG (w.alloc (.deferred (some []))) (.loop {state:=.ready,pending:=none,fn,tmps:=a.tmps,params:=ps,assign,body,defers:=w.heap.size});rwa [zH] at this
 ·cases hD;exact(Below.heap_alloc _ _ _ (by simp)).trans (zG w _)
theorem zs7 {l₀:Nat} {r₀:Loop} (hro:F.round=some l₀) (hl:w.heap[l₀]? =some (.loop r₀)) (h1:1<=n) (hg:a.eval g=.func (.func gf) #[] lb) (hFg:F.fn gf) (eg:∀args w,(callFunc gf args).run P w=.ok (.enter gf args) w)
 (hseq:IterC F (n-1) P gf lb Rd R len) (hps:∀k args,R k args->args.size=ps.size)
 {B:Nat} (hB:B<=w.heap.size) (I:Nat->zA->Prop) (Ix:Code->Nat->zA->Prop) (hI:∀k W W',I k W->CellsKept W W'->zB B W W'->I k W') (hIx:∀c k W W',Ix c k W->CellsKept W W'->zB B W W'->Ix c k W')
 (hRd:∀k W,I k W->Rd W) (h0:I 0 w)
 (Ax:Nat->Array Value->Act->zA->Prop) (hAx:∀k args a' W W',Ax k args a' W->CellsKept W W'->zB B W W'->Ax k args a' W')
 (hassign:∀(l k:Nat) (args:Array Value) (W:zA) (K:Act->zA->Prop),w.heap.size<=l->(∃r,W.heap[l]? =some (.loop r))->I k W->k<len->R k args->
   (∀a' W',KeepsFrom w.heap.size W W'->I k W'->Ax k args a' W'->K a' W')->
   assign.wpIn (F.inRound l) (n-1-1) P (Exit.then K (λ_ _ _=>False)) {tmps:=(ps.zip args).foldl (λt (p,v)=>t.setIfInBounds p v) a.tmps,defers:=[]} W)
 (hbody:∀(l k:Nat) (args:Array Value) (a':Act) (W:zA),w.heap.size<=l->(∃r,W.heap[l]? =some (.loop r))->I k W->k<len->R k args->Ax k args a' W->body.wpIn (F.inRound l) (n-1-1) P (zja w.heap.size I Ix k W) a' W)
 (hdone:∀(W:zA),I len W->Q .normal a W) (hstop:∀(c:Code) (k:Nat) (W:zA),Ix c k W->c.wpIn F n P Q a W):
 (Code.rangeFunc g ps assign body).wpIn F n P Q a w:=by
 have hst:∀o,qL w (w.alloc o):=λo=>(zM _ w).alloc (zN _) _
 refine znq h1 hg hFg eg hseq hps hB I Ix hI hIx hRd h0 Ax hAx w.heap.size [] none (λfn=>w.alloc (.loop {state:=.ready,pending:=none,fn,tmps:=a.tmps,params:=ps,assign,body,defers:=r₀.defers})) r₀.defers
  (λfn=>by rw[hro];exact run_enterLoop_inner hl _ _ _ _ _) (λfn=>zG w _) (zN _) (λD hD=>by cases hD) (λfn D hD=>by cases hD) (λfn=>hst _) (λfn=>zac (hst _)) hassign hbody (λW hi _=>hdone W hi) (λc k W hi _=>hstop c k W hi)
theorem IterC.inRound (l:Nat) (h:IterC F n P gf lb Rd R len):IterC (F.inRound l) n P gf lb Rd R len:=h
end
end
section
open Go.RowKit Go.Shelf Lib Str Limb
attribute [local go_sem] Oper.semAt_some
def psum (q:Nat->Rat):Nat->Rat
 |0=>0
 |k+1=>psum q k+q k
def RowNums (p:Option Addr) (n:Nat) (q:Nat->Rat) (W:zA):Prop:=∀i,i<n->∃b off,p=some ⟨b,off,none⟩/\W.cell? ⟨b,off+i,none⟩=some (St (numS (q i)))
theorem RowNums.keep {p:Option Addr} {n:Nat} {q:Nat->Rat} {W W':zA} (h:RowNums p n q W) (hc:CellsKept W W'):RowNums p n q W':=λi hi=>let ⟨b,off,e,h1⟩:=h i hi;⟨b,off,e,hc.cell h1⟩
theorem zzh (v:Value) (w:zA) (p:Option Addr) (n cap:Nat) (hv:v=.slice p n cap):
 Calls zF 98 #[v] w λe w'=>e=.returned (.func (.func 154) #[] #[.pointer (some ⟨w.heap.size,0,none⟩)])/\w.alloc (.cells #[v] 72)=w':=by
 subst hv
 go_enter Tryz.func98,Tryz.ntmps98
 go_wp2
 go_ret
 exact⟨rfl,rfl⟩
theorem z1q (m:Nat) (hm:1<=m) (Bs:Nat) (n:Nat) (q:Nat->Rat) (hlen:n<=5000) (Rd:zA->Prop) (p:Option Addr) (cap:Nat)
 (A:Hid (∀k,k<n->qK 23 #[St (numS (psum q k)),St (numS (q k))] (.tuple #[St (numS (psum q (k+1))),.int .i64 0])))
 (hRd:∀W,Rd W->W.cell? ⟨Bs,0,none⟩=some (.slice p n cap)/\RowNums p n q W/\Wd W):
 IterC Fence.wide m zF 154 #[.pointer (some ⟨Bs,0,none⟩)] Rd (λk args=>args= #[St (numS (psum q (k+1))),.int .i64 0]) n:=by
 intro lp J Jx W hJr hJb hY h0
 refine callsIn_of_wp Tryz.func154 rfl trivial ?_ rfl
 simp only[Tryz.ntmps154,List.size_toArray,List.length_cons,List.length_nil,Nat.reduceAdd,Nat.reduceSub,Array.replicate_succ,Array.replicate_zero,List.push_toArray,List.append_toArray,List.nil_append,List.cons_append]
 obtain⟨hb,_,_⟩:=hRd W (hJr 0 W h0)
 have HRd:=hid λk W h=>hRd W (hJr k W h);clear hRd hJr
 have HY:=hid hY;clear hY
 have HJB:=hid hJb;clear hJb
 gi_wp2
 gi_loopw [3,9] (λs i wr=>∃(k:Nat),k<=n/\s=St (numS (psum q k))/\i=.int .i64 (k:Int)/\Hid (J k wr))
  (λ_ i _=>n-(zL i).toNat)
 case atStart=>exact⟨0,zR _,by rw[show psum q 0=0 from rfl,zie],rfl,h0⟩
 case round=>
  clear hb
  obtain⟨k,hk,rfl,rfl,hJ⟩:=hrel
  by_cases hlt:k<n
  ·obtain⟨hb,hc,hwd⟩:=HRd.out k wr hJ.out
   obtain⟨b,off,rfl,c0⟩:=hc k hlt
   have HA:=hid (A.out k hlt wr hwd)
   have HY1:=hid λW h=>HY.out k #[St (numS (psum q (k+1))),.int .i64 0] W h hlt rfl
   clear hc hwd HY HRd A
   generalize numS (psum q k)=x at*
   generalize numS (q k)=y at*
   obtain⟨z,hz⟩:∃z,z=numS (psum q (k+1)):=⟨_,rfl⟩
   rw[<-hz] at HA HY1
   have HZ:=hid hz;clear hz
   gi_wp2
   refine⟨trivial,(callsIn_wide.2 HA.out).mono ?_⟩
   rintro e W2 ⟨rfl,hb2⟩
   obtain⟨fn,tmps,assign,body,hy,hR⟩:=HY1.out W2 (HJB.out k wr W2 hJ.out hb2)
   clear hb2 HA HY1
   gi_wp2
   refine hR.mono ?_
   rintro e W3 (⟨rfl,hJ3⟩|⟨rfl,hJx3⟩)
   ·have HJ3:=hid hJ3;clear hJ3
    gi_wp2
    go_roundw
    case rel=>exact⟨k+1,by omega,by rw[HZ.out],by go_num,HJ3.out⟩
    case measure=>simp[zL];omega
   ·have HJx3:=hid hJx3;clear hJx3
    gi_wp2
    refine bodyPost_ret (results_none rfl _ _ _) rfl ?_
    exact⟨⟨_,rfl⟩,.inr HJx3.out⟩
  ·obtain rfl:k=n:=by omega
   gi_wp2
   go_end0
   exact⟨⟨_,rfl⟩,.inl hJ.out⟩
structure SumS (w:zA) (p:Option Addr) (n:Nat) (q:Nat->Rat) (W:zA):Prop where
 bel:qL w W
 r1:W.cell? ⟨w.heap.size,0,none⟩=some (St [])
 f1:W.frozen? ⟨w.heap.size,0,none⟩=false
 r2:W.cell? ⟨w.heap.size+1,0,none⟩=some (.int .i64 0)
 f2:W.frozen? ⟨w.heap.size+1,0,none⟩=false
 nums:∀i,i<n->∃b off,p=some ⟨b,off,none⟩/\b<w.heap.size/\W.cell? ⟨b,off+i,none⟩=some (St (numS (q i)))
theorem SumS.keep {w:zA} {p:Option Addr} {n:Nat} {q:Nat->Rat} {W W':zA} (h:SumS w p n q W) (hc:CellsKept W W') (hb:zB w.heap.size W W'):SumS w p n q W':=
 ⟨h.bel.trans hb,hc.cell h.r1,hc.frozen h.r1 h.f1,hc.cell h.r2,hc.frozen h.r2 h.f2,λi hi=>let ⟨b,off,e,h0,h1⟩:=h.nums i hi;⟨b,off,e,h0,hc.cell h1⟩⟩
theorem SumS.row {w:zA} {p:Option Addr} {n:Nat} {q:Nat->Rat} {W:zA} (h:SumS w p n q W):RowNums p n q W:=λi hi=>let ⟨b,off,e,_,h1⟩:=h.nums i hi;⟨b,off,e,h1⟩
theorem SumS.put {w:zA} {p:Option Addr} {n:Nat} {q:Nat->Rat} {W:zA} (h:SumS w p n q W) {b0:Nat} (hb:w.heap.size+1<b0) (v:Value):SumS w p n q (W.setCell ⟨b0,0,none⟩ v):=
 ⟨h.bel.setCell (by simp;omega) _,by rw[zau _ _ _ _ (by omega)];exact h.r1,by rw[World.frozen?_setCell];exact h.f1,by rw[zau _ _ _ _ (by omega)];exact h.r2,by rw[World.frozen?_setCell];exact h.f2,
  λi hi=>let ⟨b,off,e,h0,h1⟩:=h.nums i hi;⟨b,off,e,h0,by rw[zau _ _ _ _ (by omega)];exact h1⟩⟩
theorem zzi (p:Option Addr) (cap n:Nat) (q:Nat->Rat) (hlen:n<=4096)
 (C:Hid (∀k,k<n->qK 80 #[St (numS (q k))] (.int .i64 0)))
 (A:Hid (∀k,k<n->qK 23 #[St (numS (psum q k)),St (numS (q k))] (.tuple #[St (numS (psum q (k+1))),.int .i64 0])))
 (w:zA) (HW:Hid (Wd w)) (HP:Hid (RowNums p n q w)):
 qJ 48 #[.slice p n cap] w (.tuple #[St (numS (psum q n)),.int .i64 0]):=by
 refine(callsIn_wide (n:=3)).1 ?_
 refine callsIn_of_wp_marks Tryz.func48 rfl trivial ?_ rfl
 simp only[Tryz.ntmps48,List.size_toArray,List.length_cons,List.length_nil,Nat.reduceAdd,Nat.reduceSub,Array.replicate_succ,Array.replicate_zero,List.push_toArray,List.append_toArray,List.nil_append,List.cons_append]
 have hS0:SumS w p n q ((w.alloc (.cells #[St []] 23)).alloc (.cells #[.int .i64 0] 28)):=by
  have b1:=Boxed.new w 23 (St [])
  have b2:=Boxed.new (w.alloc (.cells #[St []] 23)) 28 (.int .i64 0)
  have b12:=b1.alloc (.cells #[.int .i64 0] 28)
  simp only[zH] at b2
  have hbel:qL w ((w.alloc (.cells #[St []] 23)).alloc (.cells #[.int .i64 0] 28)):=((zM _ w).alloc (zN _) _).alloc (by simp) _
  exact⟨hbel,b12.cell,b12.frozen,b2.cell,b2.frozen,λi hi=>let ⟨b,off,e,h1⟩:=HP.out i hi;⟨b,off,e,zbe h1,(zac hbel).cell h1⟩⟩
 have HS0:=hid hS0;clear hS0 HP
 have hn1:decide ((4096:Int)<(n:Int))=false:=decide_eq_false (by omega)
 gi_wp2
 gi_loopw [15] (λi wr=>∃(k:Nat),k<=n/\i=.int .i64 (k:Int)/\Hid (SumS w p n q wr))
  (λi _=>n-(zL i).toNat)
 case atStart=>exact⟨0,zR _,rfl,HS0.out⟩
 case round=>
  clear hn1
  obtain⟨k,hk,rfl,hS⟩:=hrel
  by_cases hlt:k<n
  ·obtain⟨b,off,rfl,_,c0⟩:=hS.out.nums k hlt
   have HC:=hid (C.out k hlt wr (HW.out.below hS.out.bel))
   generalize numS (q k)=x at c0 HC
   gi_wp2
   refine⟨trivial,(callsIn_wide.2 HC.out).mono ?_⟩
   rintro e W2 ⟨rfl,hb2⟩
   have hS2:=hid (hS.out.keep (zac hb2) (hb2.mono hS.out.bel.size))
   clear hb2 HC hS HS0
   gi_wp2
   go_roundw
   case rel=>exact⟨k+1,by omega,by go_num,hS2⟩
   case measure=>simp[zL];omega
  ·obtain rfl:k=n:=by omega
   clear HS0
   gi_wp2_with (refine⟨trivial,?_⟩;gi_at_call 98;refine(callsIn_wide.2 (zzh _ _ _ _ _ rfl)).mono ?_;rintro e w' ⟨rfl,rfl⟩)
   obtain⟨W1,hW1⟩:∃W1,W1=(wr.alloc (.cells #[.string ⟨#[48]⟩] 23)).alloc (.cells #[.slice p k cap] 72):=⟨_,rfl⟩
   have hb1:qL wr W1:=by rw[hW1];exact((zM _ wr).alloc (zN _) _).alloc (by simp) _
   have hcb:W1.cell? ⟨wr.heap.size+1,0,none⟩=some (.slice p k cap):=by
    have:=(Boxed.new (wr.alloc (.cells #[.string ⟨#[48]⟩] 23)) 72 (.slice p k cap)).cell
    rw[zH] at this;rw[hW1];exact this
   have hob:=(Boxed.new wr 23 (.string ⟨#[48]⟩)).alloc (.cells #[.slice p k cap] 72)
   rw[<-hW1] at hob
   have ho1:=hob.cell;have ho2:=hob.frozen
   have hS1:=hS.out.keep (zac hb1) (hb1.mono hS.out.bel.size)
   have hwz:w.heap.size+1<wr.heap.size:=zbe hS.out.r2
   rw[<-hW1]
   clear hW1 hS hob
   have HS1:=hid hS1.bel.size
   have hseq:=z1q 2 (by omega) (wr.heap.size+1) k q (by omega) (λW=>SumS w p k q W/\W.cell? ⟨wr.heap.size+1,0,none⟩=some (.slice p k cap)) p cap A (λW h=>⟨h.2,h.1.row,HW.out.below h.1.bel⟩)
   refine zfq (n:=3) (B:=w.heap.size) rfl (by omega) rfl trivial (enters_of Tryz.func154 (by kernel_rfl) rfl) hseq (λk args h=>by subst h;rfl) hS1.bel.size
    (λj W=>SumS w p k q W/\W.cell? ⟨wr.heap.size+1,0,none⟩=some (.slice p k cap)/\W.cell? ⟨wr.heap.size,0,none⟩=some (St (numS (psum q j)))/\W.frozen? ⟨wr.heap.size,0,none⟩=false)
    (λc _ W=>False)
    (λj X Y h hc hb=>⟨h.1.keep hc hb,hc.cell h.2.1,hc.cell h.2.2.1,hc.frozen h.2.2.1 h.2.2.2⟩) (λc j X Y h hc hb=>h) (λj W h=>⟨h.1,h.2.1⟩) ⟨hS1,hcb,by rw[show psum q 0=0 from rfl,zie];exact ho1,ho2⟩
    (λj _ a' W=>a'={tmps:= #[Value.slice p k cap,undef,Value.pointer (some {block:=w.heap.size,off:=0}),Value.pointer (some {block:=w.heap.size+1,off:=0}),undef,u5,u6,Value.pointer (some {block:=wr.heap.size,off:=0}),St (numS (psum q (j+1))),.int .i64 0,Value.slice p k cap,Value.int IntKind.i64 ↑k,Value.bool false,Value.slice p k cap,Value.int IntKind.i64 ↑k,Value.int IntKind.i64 ↑k,Value.bool false,u17,u18,u19,u20,u21,u22,u23,u24,Value.slice p k cap,Value.func (Fn.func 154) #[] #[Value.pointer (some {block:=wr.heap.size+1,off:=0})],St (numS (psum q (j+1))),.int .i64 0,undef,undef,undef,undef,undef],defers:=[]})
    (λj _ a' X Y h hc hb=>h) ?assign ?body ?done ?stop
   case assign=>
    rintro lp j args W K hlp hrec hI hj rfl hK
    have HK:=hid hK;clear hK
    gi_wp2
    exact HK.out _ _ (KeepsFrom.refl _ _) hI rfl
   case body=>
    rintro lp j args a' W hlp ⟨r,hr⟩ ⟨hS,hcb,ho1,ho2⟩ hj rfl rfl
    have H0:=hid (⟨hS,hcb,ho1,ho2⟩:SumS w p k q W/\W.cell? ⟨wr.heap.size+1,0,none⟩=some (.slice p k cap)/\W.cell? ⟨wr.heap.size,0,none⟩=some (St (numS (psum q j)))/\W.frozen? ⟨wr.heap.size,0,none⟩=false)
    clear hS hcb hseq hS1 hr
    gi_wp2
    obtain⟨hS,hcb,ho1,ho2⟩:=H0.out
    refine⟨(KeepsOthers.setCell _ _ _).from _,hS.put hwz _,by rw[zau _ _ _ _ (by omega)];exact hcb,za9 ho1,by rw[World.frozen?_setCell];exact ho2⟩
   case done=>
    rintro D W hD ⟨hS,hcb,ho1,ho2⟩ hK
    have hr1:=hS.r1;have hf1:=hS.f1;have hr2:=hS.r2;have hf2:=hS.f2
    have HX:=hid (⟨hS.bel,hK⟩:qL w W/\W.heap[D]? =some (.deferred (some [])));clear hS hcb hseq hS1 hK
    gi_wp2
    obtain⟨hbel,hK⟩:=HX.out
    have hK1:=(KeepsOthers.setCell W ⟨w.heap.size,0,none⟩ (St (numS (psum q k)))).same D _ hK rfl
    have hK':=(KeepsOthers.setCell (W.setCell ⟨w.heap.size,0,none⟩ (St (numS (psum q k)))) ⟨w.heap.size+1,0,none⟩ (.int .i64 0)).same D _ hK1 rfl
    refine⟨by simp,.inl ⟨_,_,rfl,run_takeDeferred hK',?_⟩⟩
    have c1:=za9 (u:=St (numS (psum q k))) hr1
    have c2:(W.setCell ⟨w.heap.size,0,none⟩ (St (numS (psum q k)))).cell? ⟨w.heap.size+1,0,none⟩=some (.int .i64 0):=by rw[zau _ _ _ _ (by omega)];exact hr2
    have c3:=za9 (u:=.int .i64 0) c2
    have c4:((W.setCell ⟨w.heap.size,0,none⟩ (St (numS (psum q k)))).setCell ⟨w.heap.size+1,0,none⟩ (.int .i64 0)).cell? ⟨w.heap.size,0,none⟩=some (St (numS (psum q k))):=by rw[zau _ _ _ _ (by omega)];exact c1
    have e1:=(zbk hK').cell c4
    have e2:=(zbk hK').cell c3
    refine⟨.tuple #[St (numS (psum q k)),.int .i64 0],?_,⟨rfl,zby ((hbel.setCell (p:=⟨w.heap.size,0,none⟩) (by simp) _).setCell (p:=⟨w.heap.size+1,0,none⟩) (by simp) _) (by have:=HS1.out;omega) hK'⟩⟩
    simp[results,Tryz.f48,go_sem,e1,e2]
   case stop=>
    rintro D c j W hD h hK
    exact h.elim
theorem z23 (p:Option Addr) (cap n:Nat) (q:Nat->Rat) (hlen:n<=4096) (hs:∀k,k<n->∃i j,0<i/\0<j/\i+j<300/\sz (psum q k) i/\sz (q k) j) (w:zA) (hw:Wd w) (hp:RowNums p n q w):
 qJ 48 #[.slice p n cap] w (.tuple #[St (numS (psum q n)),.int .i64 0]):=
 zzi p cap n q hlen
  (hid λk hk W hW=>let ⟨i,j,hi,hj,hij,_,h2⟩:=hs k hk;zfj (q k) (zd0 hj (by omega) h2) W hW)
  (hid λk hk W hW=>let ⟨i,j,hi,hj,hij,h1,h2⟩:=hs k hk;zje (psum q k) (q k) i j hi hj hij h1 h2 W hW) w (hid hw) (hid hp)
theorem zma (q:Rat) (h:0<=q.num) (w:zA):
 Calls zF 257 #[St (numS q)] w λe w'=>e=.returned (.bool false)/\w'=w:=by
 have hp:Lib.hasPrefix (numS q) [45]=false:=by
  obtain⟨c,r,e,hc,_⟩:=dec_head q.num.natAbs
  have e1:zE q.num=zD q.num.natAbs:=by
   rcases zbg q.num with⟨_,e⟩|⟨h',_⟩
   ·exact e
   ·omega
  have hc5:c≠45:=λh=>by subst h;simp at hc
  unfold numS
  rw[e1,e]
  simp[Lib.hasPrefix,List.isPrefixOf,Ne.symm hc5]
 have hc:=Tryz.strings_HasPrefix ⟨(numS q).toArray⟩ ⟨#[45]⟩ w
 rw[show(⟨(numS q).toArray⟩:ByteArray).data.toList=numS q from rfl,show(⟨#[45]⟩:ByteArray).data.toList=[45] from rfl,hp] at hc
 show Calls _ _ #[.string ⟨(numS q).toArray⟩] _ _
 generalize (⟨(numS q).toArray⟩:ByteArray)=u at*
 have HC:=hid hc;clear hc hp
 go_enter Tryz.func257,Tryz.ntmps257
 go_wp2_with fail
 refine HC.out.mono ?_
 rintro e w' ⟨rfl,rfl⟩
 go_wp2_with fail
 go_ret
 exact⟨rfl,rfl⟩
theorem zk7 (n:Nat) (hl:(zD n).length<=17) (w:zA) (_:Wd w):
 qJ 233 #[St (zD n)] w (.tuple #[I n,.bool true]):=by
 have hc:=znc (n:Int) (by rw[Str.zad];omega) w
 rw[Str.zad] at hc
 have hsz:¬(17:Int)<(⟨(zD n).toArray⟩:ByteArray).size:=by
  have:(⟨(zD n).toArray⟩:ByteArray).size=(zD n).length:=by show(zD n).toArray.size=_;simp
  omega
 show Calls _ _ #[.string ⟨(zD n).toArray⟩] _ _
 generalize (⟨(zD n).toArray⟩:ByteArray)=u at*
 have HC:=hid hc;clear hc hl
 go_enter Tryz.func233,Tryz.ntmps233
 go_wp2_with fail
 refine HC.out.mono ?_
 rintro e w1 ⟨rfl,hb⟩
 go_wp2_with fail
 (refine wp_region_quiet_lit (by kernel_rfl) (by kernel_rfl) (WQ.out ?_);(repeat(first|(apply WQ.read (by rfl);(focus(rintro W ⟨n,rfl⟩;go_simp;try with_reducible rfl));try simp only[zzQ])|(apply WQ.skip (by rfl);try simp only[zzQ])));refine WQ.nil ?_;rintro _ ⟨nq,rfl⟩)
 go_wp2_with fail
 go_ret2
 exact⟨rfl,zao hb nq⟩
structure PairS (w:zA) (u v:List UInt8) (pb:Nat) (W:zA):Prop where
 bel:qL w W
 lt:pb<W.heap.size
 hp:W.heap[pb]? =some (.cells #[St u,St v] 230 (0,0))
theorem PairS.next {w:zA} {u v:List UInt8} {pb:Nat} {W W':zA} (h:PairS w u v pb W) (hb:qL W W'):PairS w u v pb W':=
 ⟨h.bel.trans (hb.mono h.bel.size),zS h.lt hb.size,(hb.block _ h.lt).trans h.hp⟩
theorem PairS.c0 {w:zA} {u v:List UInt8} {pb:Nat} {W:zA} (h:PairS w u v pb W):W.cell? ⟨pb,0,none⟩=some (St u):=by rw[zJ h.hp];rfl
theorem PairS.c1 {w:zA} {u v:List UInt8} {pb:Nat} {W:zA} (h:PairS w u v pb W):W.cell? ⟨pb,1,none⟩=some (St v):=by rw[zJ h.hp];rfl
theorem zji (p1 p2:Option Addr) (cap1 cap2 n1 n2:Nat) (q1 q2:Nat->Rat) (h1:n1<=100) (h2:n2<=100)
 (C:Hid (∀k,k<n1->qK 80 #[St (numS (q1 k))] (.int .i64 0)))
 (O:Hid (∀k,k<n1->qK 209 #[St (numS (q1 k))] (.agg #[St (zE (q1 k).num),St (zD (q1 k).den)])))
 (Z:Hid (∀k,k<n1->digs (q1 k).num<=90/\(zD (q1 k).den).length<=90))
 (N:Hid (∀k,k<n2->∀W:zA,Calls zF 257 #[St (numS (q2 k))] W λe w'=>e=.returned (.bool false)/\w'=W))
 (w:zA) (HW:Hid (Wd w)) (HP1:Hid (RowNums p1 n1 q1 w)) (HP2:Hid (RowNums p2 n2 q2 w)):
 qJ 207 #[.slice p1 n1 cap1,.slice p2 n2 cap2] w (.int .i64 0):=by
 go_enter Tryz.func207,Tryz.ntmps207
 go_wp2_with fail
 go_loopw [13] (λi wr=>∃(k:Nat),k<=n1/\i=.int .i64 (k:Int)/\Hid (qL w wr))
  (λi _=>n1-(zL i).toNat)
 case atStart=>exact⟨0,zR _,rfl,zM _ _⟩
 case round=>
  obtain⟨k,hk,rfl,hB⟩:=hrel
  by_cases hlt:k<n1
  ·obtain⟨b,off,rfl,c0⟩:=(HP1.out.keep (zac (hB.out.mono (zN _)))) k hlt
   have HC:=hid (C.out k hlt);have HO:=hid (O.out k hlt)
   obtain⟨z1,z2⟩:=Z.out k hlt
   obtain⟨t,ht⟩:∃t:ByteArray,t=⟨(trimPrefix (⟨(zE (q1 k).num).toArray⟩:ByteArray).data.toList (⟨#[45]⟩:ByteArray).data.toList).toArray⟩:=⟨_,rfl⟩
   have hts:t.size<=90:=by
    rw[ht];show(trimPrefix (zE (q1 k).num) [45]).toArray.size<=90
    rw[zbi];simpa [digs] using z1
   have hvs:(⟨(zD (q1 k).den).toArray⟩:ByteArray).size<=90:=by show(zD (q1 k).den).toArray.size<=90;simpa using z2
   have hmx:max (t.size:Int) ((zD (q1 k).den).length:Int)<=90:=by omega
   have HT0:=hid ht
   clear ht z1 z2
   generalize numS (q1 k)=x at*
   generalize zE (q1 k).num=u at*
   generalize zD (q1 k).den=v at*
   have HT:Hid (Value.string ⟨(trimPrefix (⟨u.toArray⟩:ByteArray).data.toList (⟨#[45]⟩:ByteArray).data.toList).toArray⟩=.string t):=hid (by rw[HT0.out])
   clear HT0
   go_wp2_with fail
   refine(HC.out wr (HW.out.below hB.out)).mono ?_
   rintro e w2 ⟨rfl,hb2⟩
   have hB2:=hid (hB.out.trans (hb2.mono hB.out.size));clear hb2
   go_wp2_with fail
   refine(HO.out w2 (HW.out.below hB2.out)).mono ?_
   rintro e w3 ⟨rfl,hb3⟩
   have hB3:=hid (hB2.out.trans (hb3.mono hB2.out.size));clear hb3 hB2 hB
   go_wp2_with fail
   obtain⟨w4,hw4⟩:∃w4,w4=w3.alloc (.cells #[St u,St v] 230):=⟨_,rfl⟩
   rw[<-hw4]
   obtain⟨pb,hpb⟩:∃pb,pb=w3.heap.size:=⟨_,rfl⟩
   have HP5:Hid (PairS w u v pb w4):=by
    have ha:qL w3 w4:=by rw[hw4];exact(zM _ w3).alloc (zN _) _
    exact hid ⟨hB3.out.trans (ha.mono hB3.out.size),by rw[hw4,hpb];simp,by rw[hw4,hpb];exact zG w3 _⟩
   rw[<-hpb]
   clear hw4 hB3 hpb
   refine zbl (λ_ W=>PairS w u v pb W) (by kernel_rfl) (by kernel_rfl) (by have h:=HP5.out;exact h.next (zM _ _).drew) ?_
   refine qR (.pointer (some ⟨pb,0,none⟩)) ?_
   simp only[zzQ]
   refine qR (St u) ?_ (hy:=λf W' hf h=>by have h0:=h.c0;go_simp)
   simp only[zzQ]
   refine zar (.string t) (by rfl) (λf W' hf h C' hC'=>by
    go_simp
    refine(Tryz.strings_TrimPrefix _ _ _).mono ?_
    rintro e w' ⟨rfl,hw1⟩
    have hw2:=hw1.symm;subst hw2
    refine⟨?_,hC' _ h⟩
    rw[HT.out]) ?_
   try simp only[zzQ]
   refine qR (.int .i64 t.size) ?_
   simp only[zzQ]
   refine qR (.pointer (some ⟨pb,1,none⟩)) ?_
   simp only[zzQ]
   refine qR (St v) ?_ (hy:=λf W' hf h=>by have h0:=h.c1;go_simp)
   simp only[zzQ]
   refine qR (.int .i64 (⟨v.toArray⟩:ByteArray).size) ?_
   simp only[zzQ]
   refine qR (.int .i64 (max (t.size:Int) ((⟨v.toArray⟩:ByteArray).size:Int))) ?_
   simp only[zzQ]
   refine qR (.bool false) ?_
   simp only[zzQ]
   refine zck λf W4 hf h=>?_
   have hB4:=hid h.bel
   clear h hf f HP5
   go_wp2_with fail
   go_roundw
   case rel=>exact⟨k+1,by omega,by go_num,hB4⟩
   case measure=>simp[zL];omega
  ·clear hk
   go_wp2_with fail
   clear HP1 C O Z
   go_loopw [36] (λi wr=>∃(k:Nat),k<=n2/\i=.int .i64 (k:Int)/\Hid (qL w wr))
    (λi _=>n2-(zL i).toNat)
   case atStart=>exact⟨0,zR _,rfl,hB⟩
   case round=>
    clear hB
    obtain⟨j,hj,rfl,hB⟩:=hrel
    by_cases hlt2:j<n2
    ·obtain⟨b,off,rfl,c0⟩:=(HP2.out.keep (zac (hB.out.mono (zN _)))) j hlt2
     have HN:=hid (N.out j hlt2)
     generalize numS (q2 j)=x at*
     go_wp2_with fail
     refine(HN.out _).mono ?_
     rintro e w2 ⟨rfl,hw1⟩
     have hw2:=hw1.symm;subst hw2;clear hw1
     go_wp2_with fail
     go_roundw
     case rel=>exact⟨j+1,by omega,by go_num,hB⟩
     case measure=>simp[zL];omega
    ·go_wp2_with fail
     go_ret
     exact⟨rfl,hB.out⟩
def prL:List Nat:=[2,3,5,7,11,13,17,19,23,29,31,37,41,43,47,53,59,61,67,71,73,79,83,89,97]
def prN (i:Nat):Nat:=prL.getD i 0
def prS (i:Nat):List UInt8:=([[50],[51],[53],[55],[49,49],[49,51],[49,55],[49,57],[50,51],[50,57],[51,49],[51,55],[52,49],[52,51],[52,55],[53,51],[53,57],[54,49],[54,55],[55,49],[55,51],[55,57],[56,51],[56,57],[57,55]]:List (List UInt8)).getD i []
def prV:Array Value:= #[.string ⟨#[50]⟩,.string ⟨#[51]⟩,.string ⟨#[53]⟩,.string ⟨#[55]⟩,.string ⟨#[49,49]⟩,.string ⟨#[49,51]⟩,.string ⟨#[49,55]⟩,.string ⟨#[49,57]⟩,.string ⟨#[50,51]⟩,.string ⟨#[50,57]⟩,.string ⟨#[51,49]⟩,.string ⟨#[51,55]⟩,.string ⟨#[52,49]⟩,.string ⟨#[52,51]⟩,.string ⟨#[52,55]⟩,.string ⟨#[53,51]⟩,.string ⟨#[53,57]⟩,.string ⟨#[54,49]⟩,.string ⟨#[54,55]⟩,.string ⟨#[55,49]⟩,.string ⟨#[55,51]⟩,.string ⟨#[55,57]⟩,.string ⟨#[56,51]⟩,.string ⟨#[56,57]⟩,.string ⟨#[57,55]⟩]
theorem z1r:∀i,i<25->prS i=zD (prN i)
 |0,_=>by show[50]=zD 2;rw[zae (by omega)];rfl
 |1,_=>by show[51]=zD 3;rw[zae (by omega)];rfl
 |2,_=>by show[53]=zD 5;rw[zae (by omega)];rfl
 |3,_=>by show[55]=zD 7;rw[zae (by omega)];rfl
 |4,_=>by show[49,49]=zD 11;rw[zav (by omega),zae (by omega)];rfl
 |5,_=>by show[49,51]=zD 13;rw[zav (by omega),zae (by omega)];rfl
 |6,_=>by show[49,55]=zD 17;rw[zav (by omega),zae (by omega)];rfl
 |7,_=>by show[49,57]=zD 19;rw[zav (by omega),zae (by omega)];rfl
 |8,_=>by show[50,51]=zD 23;rw[zav (by omega),zae (by omega)];rfl
 |9,_=>by show[50,57]=zD 29;rw[zav (by omega),zae (by omega)];rfl
 |10,_=>by show[51,49]=zD 31;rw[zav (by omega),zae (by omega)];rfl
 |11,_=>by show[51,55]=zD 37;rw[zav (by omega),zae (by omega)];rfl
 |12,_=>by show[52,49]=zD 41;rw[zav (by omega),zae (by omega)];rfl
 |13,_=>by show[52,51]=zD 43;rw[zav (by omega),zae (by omega)];rfl
 |14,_=>by show[52,55]=zD 47;rw[zav (by omega),zae (by omega)];rfl
 |15,_=>by show[53,51]=zD 53;rw[zav (by omega),zae (by omega)];rfl
 |16,_=>by show[53,57]=zD 59;rw[zav (by omega),zae (by omega)];rfl
 |17,_=>by show[54,49]=zD 61;rw[zav (by omega),zae (by omega)];rfl
 |18,_=>by show[54,55]=zD 67;rw[zav (by omega),zae (by omega)];rfl
 |19,_=>by show[55,49]=zD 71;rw[zav (by omega),zae (by omega)];rfl
 |20,_=>by show[55,51]=zD 73;rw[zav (by omega),zae (by omega)];rfl
 |21,_=>by show[55,57]=zD 79;rw[zav (by omega),zae (by omega)];rfl
 |22,_=>by show[56,51]=zD 83;rw[zav (by omega),zae (by omega)];rfl
 |23,_=>by show[56,57]=zD 89;rw[zav (by omega),zae (by omega)];rfl
 |24,_=>by show[57,55]=zD 97;rw[zav (by omega),zae (by omega)];rfl
 |n+25,h=>absurd h (by omega)
theorem zw4:∀i,i<25->2<=prN i/\prN i<=97:=by decide
theorem z25 (i:Nat) (hi:i<25) (w:zA):(Instr.index 297 (.agg prV) (.int .i64 (i:Int))).run zF w=.ok (St (prS i)) w:=
 match i,hi with
 |0,_=>by kernel_rfl
 |1,_=>by kernel_rfl
 |2,_=>by kernel_rfl
 |3,_=>by kernel_rfl
 |4,_=>by kernel_rfl
 |5,_=>by kernel_rfl
 |6,_=>by kernel_rfl
 |7,_=>by kernel_rfl
 |8,_=>by kernel_rfl
 |9,_=>by kernel_rfl
 |10,_=>by kernel_rfl
 |11,_=>by kernel_rfl
 |12,_=>by kernel_rfl
 |13,_=>by kernel_rfl
 |14,_=>by kernel_rfl
 |15,_=>by kernel_rfl
 |16,_=>by kernel_rfl
 |17,_=>by kernel_rfl
 |18,_=>by kernel_rfl
 |19,_=>by kernel_rfl
 |20,_=>by kernel_rfl
 |21,_=>by kernel_rfl
 |22,_=>by kernel_rfl
 |23,_=>by kernel_rfl
 |24,_=>by kernel_rfl
 |n+25,h=>absurd h (by omega)
structure Pw (w:zA):Prop where
 prim:w.var? zF "kingpost/root.primes" =some prV
theorem Pw.below {w w':zA} (h:Pw w) (hb:qL w w'):Pw w':=by
 have hg:Tryz.prog.globalNamed "kingpost/root.primes" =some 3:=by kernel_rfl
 exact⟨var?_below hb hg (zv5 hg h.prim) h.prim⟩
theorem Pw.block {w:zA} (h:Pw w):∃t fz,w.heap[3]? =some (.cells prV t fz):=by
 have hg:Tryz.prog.globalNamed "kingpost/root.primes" =some 3:=by kernel_rfl
 have hv:=h.prim
 unfold World.var? at hv
 rw[hg] at hv
 simp only[Option.bind_some] at hv
 cases hb:w.heap[(3:Nat)]? with
 |none=>rw[hb] at hv;cases hv
 |some x=>
  rw[hb] at hv
  cases x with
  |cells cs t fz=>simp at hv;subst hv;exact⟨t,fz,rfl⟩
  |_=>cases hv
theorem z26 (n:Nat) (hn:n<=60000) (w:zA) (hw:Wd w):
 qJ 278 #[I n,.int .i64 1] w (.tuple #[St (zD n),.int .i64 0]):=by
 have hc:=zb3 (n:Int) (by omega) (by omega) w hw
 rw[Str.zad] at hc
 have HC:=hid hc;clear hc
 go_enter Tryz.func278,Tryz.ntmps278
 go_wp2_with fail
 refine HC.out.mono ?_
 rintro e w1 ⟨rfl,hb⟩
 go_wp2_with fail
 go_ret2
 exact⟨rfl,hb⟩
theorem zjj (w:zA):Calls zF 277 #[.int .i64 1] w λe w'=>e=.returned (.int .i64 1)/\w'=w:=by
 go_enter Tryz.func277,Tryz.ntmps277
 go_wp2_with fail
 go_ret
 exact⟨rfl,rfl⟩
theorem z1s {c l p:Nat} (hp:p*p∣l):(c*p)*(c*p)*(l/(p*p))=c*c*l:=by
 obtain⟨k,rfl⟩:=hp
 by_cases h:p*p=0
 ·rw[h];simp
 ·rw[Nat.mul_div_cancel_left _ (by omega)]
  simp only[Nat.mul_left_comm,Nat.mul_comm]
theorem znr (r:Nat) (hr:0<r) (hr2:r<=200) (H1:Hid (∀c l:Nat,c*c*l=r*r->(∀i,i<25->¬prN i*prN i∣l)->c=r/\l=1))
 (AT:Hid (∀i,i<25->∀W:zA,qJ 122 #[St (prS i)] W (.tuple #[I (prN i),.nilIface])))
 (w:zA) (HW:Hid (Wd w)) (HP:Hid (Pw w)):
 qJ 234 #[I (r*r:Nat),.int .i64 1] w (.tuple #[St (zD r),St [49]]):=by
 have hm:r*r<=200*200:=Nat.mul_le_mul hr2 hr2
 obtain⟨N,hN⟩:∃N,N=r*r:=⟨_,rfl⟩
 have hN0:0<N:=by rw[hN];exact Nat.mul_pos hr hr
 have hN9:N<=40000:=by rw[hN];omega
 obtain⟨tt,fz,hblk⟩:=HP.out.block
 rw[<-hN] at H1⊢
 have HN:=hid hN;clear hN hm
 have hwm:IntKind.i64.wrap ((N:Int)*1)=N:=by rw[Int.mul_one];exact zI _ (by omega)
 go_enter Tryz.func234,Tryz.ntmps234
 go_wp2_with (refine wpList_load_row rfl 297 (.global 3) rfl 3 rfl tt prV fz (.array 25 9) hblk (by kernel_rfl) rfl (by kernel_rfl) ?_)
 have hB0:=zM w.heap.size w
 go_loopw [6,7,19] (λc lf i wr=>∃k cN lN:Nat,k<=25/\c=I cN/\lf=I lN/\i=.int .i64 (k:Int)/\Hid (cN*cN*lN=N)/\Hid (∀j,j<k->¬prN j*prN j∣lN)/\Hid (qL w wr))
  (λ_ _ i _=>25-(zL i).toNat)
 case atStart=>exact⟨0,1,N,by omega,rfl,rfl,rfl,hid (by omega),hid (λj h=>by omega),hid hB0⟩
 case round=>
  clear hB0 hwm hblk
  obtain⟨k,cN,lN,hk,rfl,rfl,rfl,hE,hD,hB⟩:=hrel
  by_cases hlt:k<25
  ·have hx:=λw=>z25 k hlt w
   obtain⟨g1,g2⟩:=zw4 k hlt
   have hat:=hid (AT.out k hlt)
   obtain⟨p,hp⟩:∃p,p=prN k:=⟨_,rfl⟩
   rw[<-hp] at g1 g2 hat
   have HPk:=hid hp;clear hp
   generalize prS k=y at*
   have hwp:IntKind.i64.wrap ((p:Int)*(p:Int))=((p*p:Nat):Int):=by
    have:p*p<=97*97:=Nat.mul_le_mul g2 g2
    rw[<-Int.natCast_mul];exact zI _ (by omega)
   have hpp:4<=p*p:=Nat.mul_le_mul g1 g1
   obtain⟨pp,hpp2⟩:∃pp,pp=p*p:=⟨_,rfl⟩
   rw[<-hpp2] at hwp hpp
   have HPP:=hid hpp2;clear hpp2
   go_wp2_with fail
   refine(hat.out wr).mono ?_
   rintro e w2 ⟨rfl,hb2⟩
   have hB2:=hid (hB.out.trans (hb2.mono hB.out.size));clear hb2 hB hx hat
   go_wp2_with fail
   go_loopw [6,7] (λc lf wr=>∃cN lN:Nat,c=I cN/\lf=I lN/\Hid (cN*cN*lN=N)/\Hid (∀j,j<k->¬prN j*prN j∣lN)/\Hid (qL w wr))
    (λ_ lf _=>(zL lf).toNat)
   case atStart=>exact⟨cN,lN,rfl,rfl,hE,hD,hB2⟩
   case round=>
    clear hE hD hB2
    obtain⟨cN,lN,rfl,rfl,hE,hD,hB⟩:=hrel
    have hl0:0<lN:=yS (λh=>by have:=hE.out;rw[h] at this;simp at this;omega)
    have hpp0:¬pp=0:=by omega
    have hle:lN<=N:=by rw[<-hE.out];exact Nat.le_mul_of_pos_left _ (yS (λh=>by have:=hE.out;rw[h] at this;simp at this;omega))
    have hmod:(lN:Int).tmod (pp:Int)=((lN%pp:Nat):Int):=rfl
    have hdiv:(lN:Int).tdiv (pp:Int)=((lN/pp:Nat):Int):=rfl
    have hwz:∀z:Nat,z<=lN->IntKind.i64.wrap (z:Int)=(z:Int):=λz hz=>zI _ (by omega)
    have hwm:=hwz _ (Nat.mod_le lN pp)
    have hwd:=hwz _ (Nat.div_le_self lN pp)
    have hwq:IntKind.i64.wrap ((lN:Int)/(pp:Int))=((lN/pp:Nat):Int):=by rw[<-Int.natCast_ediv];exact hwd
    have HWQ:=hid hwq
    clear hwz hwq
    by_cases hd:pp∣lN
    ·have hm0:(((lN%pp:Nat):Int)==0)=true:=by rw[Nat.mod_eq_zero_of_dvd hd];rfl
     have hnext:=z1s (c:=cN) (l:=lN) (p:=p) (by rw[<-HPP.out];exact hd)
     rw[<-HPP.out,hE.out] at hnext
     have hl1:0<lN/pp:=yS (λh=>by rw[h] at hnext;simp at hnext;omega)
     have hcp:cN*p<=N:=by
      rw[<-hnext]
      exact zO (Nat.le_mul_self _) (Nat.le_mul_of_pos_right _ hl1)
     have hwc:IntKind.i64.wrap ((cN:Int)*(p:Int))=((cN*p:Nat):Int):=by rw[<-Int.natCast_mul];exact zI _ (by omega)
     have hlt2:lN/pp<lN:=Nat.div_lt_self hl0 (by omega)
     have hkeep:∀j,j<k->¬prN j*prN j∣lN/pp:=λj hj h=>hD.out j hj (Nat.dvd_trans h (Nat.div_dvd_of_dvd hd))
     have HNX:=hid hnext;have HK:=hid hkeep;have HL:=hid hlt2
     clear hnext hkeep hd hlt2 hl1 hcp
     go_wp2
     (refine wp_region_quiet_lit (by kernel_rfl) (by kernel_rfl) (WQ.out ?_);(repeat(first|(apply WQ.read (by rfl);(focus(rintro W ⟨n,rfl⟩;go_simp;try with_reducible rfl));try simp only[zzQ])|(apply WQ.skip (by rfl);try simp only[zzQ])));refine WQ.nil ?_;rintro _ ⟨nq,rfl⟩)
     go_wp2
     go_roundw
     case rel=>exact⟨cN*p,lN/pp,by first|rfl|simp,by first|(rw[HWQ.out])|rfl|simp,HNX,HK,hid (zao hB.out _)⟩
     case measure=>
      rw[HWQ.out]
      show(lN/pp:Nat)<lN
      exact HL.out
    ·have hm0:(((lN%pp:Nat):Int)==0)=false:=by
      rw[beq_eq_false_iff_ne];intro h;exact hd (Nat.dvd_of_mod_eq_zero (by omega))
     have hkeep:∀j,j<k+1->¬prN j*prN j∣lN:=λj hj h=>by
      by_cases e:j=k
      ·subst e;rw[<-HPk.out,<-HPP.out] at h;exact hd h
      ·exact hD.out j (by omega) h
     have HK:=hid hkeep;clear hkeep hd
     go_wp2
     go_roundw
     case rel=>exact⟨k+1,cN,lN,by omega,rfl,rfl,by go_num,hE,HK,hB⟩
     case measure=>simp[zL];omega
  ·have hk25:k=25:=by omega
   obtain⟨rfl,rfl⟩:=H1.out cN lN hE.out (λi hi=>hD.out i (by omega))
   have hw1:IntKind.i64.wrap ((1:Int)*1)=1:=by decide
   have hwc:IntKind.i64.wrap ((cN:Int)*1)=(cN:Int):=by rw[Int.mul_one];exact zI _ (by omega)
   clear hk25 hE hD AT H1
   go_wp2_with fail
   refine(zjj wr).mono ?_
   rintro e w2 ⟨rfl,hw1⟩
   have hw2:=hw1.symm;subst hw2;clear hw1
   go_wp2_with fail
   refine(z26 cN (by omega) wr (HW.out.below hB.out)).mono ?_
   rintro e w3 ⟨rfl,hb3⟩
   have hB3:=hB.out.trans (hb3.mono hB.out.size)
   go_wp2_with fail
   have hit:=zb3 1 (by omega) (by omega) w3 (HW.out.below hB3)
   rw[show Lib.itoa 1=[49] from by show Lib.itoa ((1:Nat):Int)=_;rw[Str.zad,zae (by omega)];rfl] at hit
   refine hit.mono ?_
   rintro e w4 ⟨rfl,hb4⟩
   have hB4:=hB3.trans (hb4.mono hB3.size)
   clear hit hb3 hb4
   go_wp2_with fail
   go_ret2
   exact⟨rfl,hB4⟩
end
end Go.Proofs.YthfpmfdiamldoaaGreatDoor
