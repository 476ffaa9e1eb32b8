/- enclosure.checkSurd. -/
import Derived.Test.YtmeekcnlacckfaaGreatDoorX14
import Derived.LaidByTextLater
set_option maxRecDepth 100000
set_option maxHeartbeats 8000000
open Go renaming World → zA, Calls → zC
open Go.Lib renaming decDigits → zD
open Go.Proofs.Tryz renaming prog → zF
open Go.World renaming alloc_heap_new → zG, size_alloc → zH
open Go.Joins renaming cell_of_block → zJ, block_setCell → zK
open Go.RowKit.Below renaming refl → zM, heap_setCell → yE
open Nat renaming le_refl → zN, le_trans → zO
namespace Go.Proofs.YtmeekcnlacckfaaGreatDoor
section
open Go.RowKit Go.Shelf Lib Str Limb
attribute [local go_sem] Oper.semAt_some
theorem ya1 (p:Option Addr) (cap n:Nat) (X Y:Nat->ByteArray) (hl:n<=5000)
 (F:Hid (∀i,i<n->∀W:zA,Wd W->zC zF 211 #[.agg #[.string (X i),.string (Y i)]] W (BolQ W false)))
 (w:zA) (HW:Hid (Wd w)) (HP:Hid (RowTm p n X Y w)):
 qJ 129 #[.slice p n cap,.func (.func 211) #[] #[]] w (.int .i64 (-1)):=by
 go_enter Tryz.func129,Tryz.ntmps129;go_wp2;go_loopw [8] (λi wr=>∃(k:Nat),k<=n/\i=.int .i64 (k:Int)/\Hid (qL w wr))
  (λi _=>n-(RowKit.intOf i).toNat)
 case atStart=>exact⟨0,Nat.zero_le _,rfl,zM _ _⟩
 case round=>
  obtain⟨k,hk,rfl,hB⟩:=hrel;by_cases hlt:k<n
  ·obtain⟨b,off,rfl,c0,c1⟩:=(HP.out.keep (zac hB.out)) k hlt
   have HF:=hid (F.out k hlt wr (HW.out.below hB.out));generalize X k=x at*
   generalize Y k=y at*
   go_wp21;refine zzM HF.out λw2 hb2=>?_;have hB2:=hid (hB.out.trans (hb2.mono hB.out.size));clear hb2 HF;go_wp21;go_roundw
   case rel=>exact⟨k+1,by omega,by go_num,hB2⟩
   case measure=>simp[RowKit.intOf];omega
  ·have hkn:k=n:=by omega
   go_wp21;go_ret;exact⟨rfl,hB.out⟩
theorem ya2 (p:Option Addr) (cap n:Nat) (w:zA)
 (F:Hid (qJ 129 #[.slice p n cap,.func (.func 211) #[] #[]] w (.int .i64 (-1)))):
 zC zF 65 #[.slice p n cap,.func (.func 211) #[] #[]] w (BolQ w false):=by
 go_enter Tryz.func65,Tryz.ntmps65;go_wp21;refine zzM F.out λw1 hB=>?_;go_wp21;go_ret;exact⟨rfl,hB⟩
theorem z5r (p:Option Addr) (cap n:Nat) (C:zA->Prop) (hC:∀W W',C W->qL W W'->C W')
 (K:Hid (∀W:zA,C W->qJ 70 #[.slice p n cap] W (.int .i64 0)))
 (F:Hid (∀W:zA,C W->zC zF 65 #[.slice p n cap,.func (.func 211) #[] #[]] W (BolQ W false)))
 (w:zA) (H:Hid (C w)):
 qJ 133 #[.slice p n cap] w (.int .i64 0):=by
 have HC:=hid hC;clear hC;go_enter Tryz.func133,Tryz.ntmps133;go_wp21;refine zzM (K.out w H.out) λw1 hb1=>?_;have B1:=hid hb1;clear hb1;go_wp21;refine zzM (F.out w1 (HC.out _ _ H.out B1.out)) λw2 hb2=>?_;have B2:=hid (B1.out.trans (hb2.mono B1.out.size));clear hb2;go_wp21;go_ret;exact⟨rfl,B2.out⟩
theorem z8m (s:ByteArray) (n d q:Int) (hn:0<=n) (hd:0<d) (hq:n.tdiv d=q) (hn2:n<100000000) (hd2:d<100000000) (hq2:0<=q/\q<=n)
 (N:Hid (∀W:zA,qJ 79 #[.string s] W (.tuple #[.agg #[.int .i64 n,.int .i64 d],.bool true]))) (w:zA) (HW:Hid (Wd w)):
 qJ 148 #[.string s] w (.tuple #[St (itoa q),.int .i64 0]):=by
 have hit:=λW hW=>zb3 q (by omega) (by omega) W hW;have w1:IntKind.i64.wrap (n.tdiv d)=q:=by rw[hq];exact IntWalk.i64_in _ (by omega)
 have w2:IntKind.i64.wrap (n.tmod d)=n.tmod d:=by
  rw[Int.tmod_eq_emod_of_nonneg hn];have h1:=Int.emod_lt_of_pos n hd;have h2:=Int.emod_nonneg n (show d≠0 by omega);exact IntWalk.i64_in _ (by omega)
 have hrn:decide (n%d<0)=false:=decide_eq_false (by have:=Int.emod_nonneg n (show d≠0 by omega);omega);have hrn2:decide (n.tmod d<0)=false:=by rw[Int.tmod_eq_emod_of_nonneg hn];exact hrn
 have hd0:¬d=0:=by omega
 have HIT:=hid hit;clear hit hq hq2;go_enter Tryz.func148,Tryz.ntmps148;go_wp21;refine zzM (N.out w) λy1 hb1=>?_;obtain⟨v1,hv⟩:=zzX (y1.alloc (.cells #[.int .i64 n,.int .i64 d] 80));have a1:qL y1 v1:=by rw[hv];exact(zM _ y1).alloc (zN _) _
 have A1:v1.heap[y1.heap.size]? =some (.cells #[.int .i64 n,.int .i64 d] 80 (0,0)):=by rw[hv];exact zG y1 _
 have k0:v1.cell? ⟨y1.heap.size,0,none⟩=some (.int .i64 n):=by rw[zJ A1];rfl
 have k1:v1.cell? ⟨y1.heap.size,1,none⟩=some (.int .i64 d):=by rw[zJ A1];rfl
 rw[hv] at k0 k1;have E1:=hid (hb1.trans (a1.mono hb1.size));have HV:=hid hv.symm;clear hv a1 A1 hb1;go_wp21;rw[HV.out];clear k0 k1 HV;refine zzM (HIT.out v1 (HW.out.below E1.out)) λy2 hb2=>?_;have E2:=hid (E1.out.trans (hb2.mono E1.out.size));clear hb2;go_wp21;go_ret2;exact⟨rfl,E2.out⟩
theorem z5w (a b:Nat) (hb:0<b) (ha:(zD a).length<=300) (hb3:(zD b).length<=300) (w:zA) (hw:Wd w):
 qJ 368 #[.agg #[St (zD a),St (zD b)]] w (St (zD (a/b))):=by
 have hd:=λW hW=>zzq a b hb ha hb3 W hW;generalize zD a=x at*
 generalize zD b=y at*
 generalize zD (a/b)=q at*
 generalize zD (a%b)=r at*
 obtain⟨v1,hv⟩:=zzX (w.alloc (.cells #[St x,St y] 235));have a1:qL w v1:=by rw[hv];exact(zM _ w).alloc (zN _) _
 have A1:v1.heap[w.heap.size]? =some (.cells #[St x,St y] 235 (0,0)):=by rw[hv];exact zG w _
 have k0:v1.cell? ⟨w.heap.size,0,none⟩=some (St x):=by rw[zJ A1];rfl
 have k1:v1.cell? ⟨w.heap.size,1,none⟩=some (St y):=by rw[zJ A1];rfl
 have HD:=hid (hd v1 (hw.below a1));rw[hv] at k0 k1;have HV:=hid hv.symm;have E1:=hid a1;clear hv a1 A1 hd hb ha hb3 hw;go_enter Tryz.func368,Tryz.ntmps368;go_wp21;rw[HV.out];clear k0 k1 HV;refine zzM HD.out λw2 hb1=>?_;have B1:=hid (E1.out.trans (hb1.mono E1.out.size));clear hb1;go_wp21;go_ret;exact⟨rfl,B1.out⟩
theorem zyk (x u z:List UInt8) (w:zA)
 (M:Hid (qJ 11 #[St x,St u] w (.tuple #[St z,.int .i64 0]))):
 qJ 348 #[St x,St u] w (St z):=by
 go_enter Tryz.func348,Tryz.ntmps348;go_wp21;refine zzM M.out λw1 hb1=>?_;have B1:=hid hb1;clear hb1;go_wp21;go_ret;exact⟨rfl,B1.out⟩
structure PrdS (w:zA) (a b c d r s:List UInt8) (f:Nat->Bool) (W:zA):Prop where
 bel:qL w W
 h0:W.heap[w.heap.size]? =some (.cells #[St a,St b] 235 (0,0))
 h1:W.heap[w.heap.size+1]? =some (.cells #[St c,St d] 235 (0,0))
 h2:f 11=false->W.heap[w.heap.size+1+1]? =some (.cells #[St [],St []] 235 (0,0))
 h3:f 11=true->W.heap[w.heap.size+1+1]? =some (.cells #[St r,St s] 235 (0,0))
section
variable {w W W':zA} {a b c d r s:List UInt8} {f g:Nat->Bool}
theorem PrdS.congr (h:PrdS w a b c d r s f W) (e:g 11=f 11):PrdS w a b c d r s g W:=⟨h.bel,h.h0,h.h1,by rw[e];exact h.h2,by rw[e];exact h.h3⟩
theorem PrdS.next (h:PrdS w a b c d r s f W) (hb:qL W W'):PrdS w a b c d r s f W':=
 have hc:=zac hb
 ⟨h.bel.trans (hb.mono h.bel.size),hc _ _ _ _ h.h0,hc _ _ _ _ h.h1,λe=>hc _ _ _ _ (h.h2 e),λe=>hc _ _ _ _ (h.h3 e)⟩
theorem PrdS.cells (h:PrdS w a b c d r s f W):W.cell? ⟨w.heap.size,0,none⟩=some (St a)/\W.cell? ⟨w.heap.size,1,none⟩=some (St b)/\W.cell? ⟨w.heap.size+1,0,none⟩=some (St c)/\W.cell? ⟨w.heap.size+1,1,none⟩=some (St d):=
 ⟨by rw[zJ h.h0];rfl,by rw[zJ h.h0];rfl,by rw[zJ h.h1];rfl,by rw[zJ h.h1];rfl⟩
theorem PrdS.soft (h:PrdS w a b c d r s f W):W.frozen? ⟨w.heap.size+1+1,0,none⟩=false/\W.frozen? ⟨w.heap.size+1+1,1,none⟩=false:=by
 cases e:f 11
 ·exact⟨Go.Joins.unfrozen_of_block (h.h2 e) 0,Go.Joins.unfrozen_of_block (h.h2 e) 1⟩
 ·exact⟨Go.Joins.unfrozen_of_block (h.h3 e) 0,Go.Joins.unfrozen_of_block (h.h3 e) 1⟩
theorem PrdS.old (h:PrdS w a b c d r s f W) (e:f 11=false):W.cell? ⟨w.heap.size+1+1,0,none⟩=some (St [])/\W.cell? ⟨w.heap.size+1+1,1,none⟩=some (St []):=
 ⟨by rw[zJ (h.h2 e)];rfl,by rw[zJ (h.h2 e)];rfl⟩
theorem PrdS.new (h:PrdS w a b c d r s f W) (e:f 11=true):W.cell? ⟨w.heap.size+1+1,0,none⟩=some (St r)/\W.cell? ⟨w.heap.size+1+1,1,none⟩=some (St s):=
 ⟨by rw[zJ (h.h3 e)];rfl,by rw[zJ (h.h3 e)];rfl⟩
theorem PrdS.put (h:PrdS w a b c d r s f W) (e:f 11=false):PrdS w a b c d r s (λj=>if 11=j then true else f j) ((W.setCell ⟨w.heap.size+1+1,0,none⟩ (St r)).setCell ⟨w.heap.size+1+1,1,none⟩ (St s)):=by
 have ne:∀{k:Nat} {o:Obj},k≠w.heap.size+1+1->W.heap[k]? =some o->((W.setCell ⟨w.heap.size+1+1,0,none⟩ (St r)).setCell ⟨w.heap.size+1+1,1,none⟩ (St s)).heap[k]? =some o:=λ{k o} hk h=>by
  rw[yE _ _ _ _ (by exact hk),yE _ _ _ _ (by exact hk)];exact h
 refine⟨(h.bel.setCell (p:=⟨w.heap.size+1+1,0,none⟩) (by show _<=w.heap.size+1+1;omega) _).setCell (p:=⟨w.heap.size+1+1,1,none⟩) (by show _<=w.heap.size+1+1;omega) _,ne (by omega) h.h0,ne (by omega) h.h1,λk=>(by simp at k),λ_=>?_⟩;have:=zK (i:=1) (zK (i:=0) (h.h2 e) (St r)) (St s);exact this
end
theorem PrdS.start (w:zA) (a b c d r s:List UInt8):PrdS w a b c d r s (λ_=>false) (((w.alloc (.cells #[St a,St b] 235)).alloc (.cells #[St c,St d] 235)).alloc (.cells #[St [],St []] 235)):=by
 refine⟨(((zM _ w).alloc (zN _) _).alloc (by simp) _).alloc (by simp;omega) _,?_,?_,λ_=>?_,λk=>(by cases k)⟩
 ·exact(Below.heap_alloc _ _ _ (by simp;omega)).trans ((Below.heap_alloc _ _ _ (by simp)).trans (zG w _))
 ·have:=zG (w.alloc (.cells #[St a,St b] 235)) (.cells #[St c,St d] 235)
  rw[zH] at this;exact(Below.heap_alloc _ _ _ (by simp)).trans this
 ·have:=zG ((w.alloc (.cells #[St a,St b] 235)).alloc (.cells #[St c,St d] 235)) (.cells #[St [],St []] 235)
  rw[zH,zH] at this;exact this
theorem z3r (a b c d r s:List UInt8)
 (M1:Hid (qK 189 #[St a,St c] (St r)))
 (M2:Hid (qK 189 #[St b,St d] (St s)))
 (w:zA) (HW:Hid (Wd w)):
 qJ 367 #[.agg #[St a,St b],.agg #[St c,St d]] w (.agg #[St r,St s]):=by
 obtain⟨v1,hv⟩:=zzX (((w.alloc (.cells #[St a,St b] 235)).alloc (.cells #[St c,St d] 235)).alloc (.cells #[St [],St []] 235));have HS0:Hid (PrdS w a b c d r s (λ_=>false) v1):=hid (by rw[hv];exact PrdS.start w a b c d r s);have HV:=hid hv.symm;obtain⟨T,hT⟩:=zzX w.heap.size;have HT:=hid hT;clear hv hT;go_enter Tryz.func367,Tryz.ntmps367;go_wp21;have h9:=HV.out;rw[show((w.alloc (.cells #[.string ⟨a.toArray⟩,.string ⟨b.toArray⟩] 235)).alloc (.cells #[.string ⟨c.toArray⟩,.string ⟨d.toArray⟩] 235)).alloc (.cells #[.string ⟨#[]⟩,.string ⟨#[]⟩] 235)=v1 from h9];clear h9 HV;refine zbl (PrdS w a b c d r s) (by kernel_rfl) (by kernel_rfl) (HS0.out.next (zM _ _).drew) ?_;refine zab (v:=.pointer (some ⟨w.heap.size,0,none⟩)) (by rfl) (λf W' h=>h.congr rfl) (λf W' hf h=>by go_simp) ?_
 try simp only[zzQ]
 refine zab (v:=St a) (by rfl) (λf W' h=>h.congr rfl) (λf W' hf h=>by obtain⟨q0,q1,q2,q3⟩:=h.cells;go_simp) ?_
 try simp only[zzQ]
 refine zab (v:=.pointer (some ⟨w.heap.size+1,0,none⟩)) (by rfl) (λf W' h=>h.congr rfl) (λf W' hf h=>by go_simp) ?_
 try simp only[zzQ]
 refine zab (v:=St c) (by rfl) (λf W' h=>h.congr rfl) (λf W' hf h=>by obtain⟨q0,q1,q2,q3⟩:=h.cells;go_simp) ?_
 try simp only[zzQ]
 refine zar (St r) (by rfl) (λf W' hf h C' hC'=>by
  go_simp;refine zzM (M1.out _ (HW.out.below h.bel)) λw' hb=>?_;exact⟨rfl,hC' _ ((h.next hb).congr rfl)⟩) ?_
 try simp only[zzQ]
 refine zab (v:=.pointer (some ⟨w.heap.size,1,none⟩)) (by rfl) (λf W' h=>h.congr rfl) (λf W' hf h=>by go_simp) ?_
 try simp only[zzQ]
 refine zab (v:=St b) (by rfl) (λf W' h=>h.congr rfl) (λf W' hf h=>by obtain⟨q0,q1,q2,q3⟩:=h.cells;go_simp) ?_
 try simp only[zzQ]
 refine zab (v:=.pointer (some ⟨w.heap.size+1,1,none⟩)) (by rfl) (λf W' h=>h.congr rfl) (λf W' hf h=>by go_simp) ?_
 try simp only[zzQ]
 refine zab (v:=St d) (by rfl) (λf W' h=>h.congr rfl) (λf W' hf h=>by obtain⟨q0,q1,q2,q3⟩:=h.cells;go_simp) ?_
 try simp only[zzQ]
 refine zar (St s) (by rfl) (λf W' hf h C' hC'=>by
  go_simp;refine zzM (M2.out _ (HW.out.below h.bel)) λw' hb=>?_;exact⟨rfl,hC' _ ((h.next hb).congr rfl)⟩) ?_
 try simp only[zzQ]
 refine zab (v:=.agg #[St r,St s]) (by rfl) (λf W' h=>h.congr rfl) (λf W' hf h=>by go_simp) ?_
 try simp only[zzQ]
 refine zar undef (by rfl) (λf W' hf h C' hC'=>by
  have h11:=hf.self;obtain⟨f0,f1⟩:=h.soft;obtain⟨f2,f3⟩:=h.old h11;go_simp;exact⟨rfl,hC' _ (h.put h11)⟩) ?_
 try simp only[Act.put]
 refine zck λf X hf h=>?_;obtain⟨c0,c1⟩:=h.new (hf 11 (by decide));have hB:=hid h.bel;clear h hf;go_wp21;exact bodyPost_ret (v:=.agg #[St r,St s]) (by simp[results,Tryz.results367,go_sem,c0,c1]) rfl ⟨rfl,hB.out⟩
theorem z5y (a b c d r s:List UInt8)
 (M1:Hid (qK 189 #[St a,St d] (St r)))
 (M2:Hid (qK 189 #[St b,St c] (St s)))
 (w:zA) (HW:Hid (Wd w)):
 qJ 366 #[.agg #[St a,St b],.agg #[St c,St d]] w (.agg #[St r,St s]):=by
 obtain⟨v1,hv⟩:=zzX (((w.alloc (.cells #[St a,St b] 235)).alloc (.cells #[St c,St d] 235)).alloc (.cells #[St [],St []] 235));have HS0:Hid (PrdS w a b c d r s (λ_=>false) v1):=hid (by rw[hv];exact PrdS.start w a b c d r s);have HV:=hid hv.symm;obtain⟨T,hT⟩:=zzX w.heap.size;have HT:=hid hT;clear hv hT;go_enter Tryz.func366,Tryz.ntmps366;go_wp21;have h9:=HV.out;rw[show((w.alloc (.cells #[.string ⟨a.toArray⟩,.string ⟨b.toArray⟩] 235)).alloc (.cells #[.string ⟨c.toArray⟩,.string ⟨d.toArray⟩] 235)).alloc (.cells #[.string ⟨#[]⟩,.string ⟨#[]⟩] 235)=v1 from h9];clear h9 HV;refine zbl (PrdS w a b c d r s) (by kernel_rfl) (by kernel_rfl) (HS0.out.next (zM _ _).drew) ?_;refine zab (v:=.pointer (some ⟨w.heap.size,0,none⟩)) (by rfl) (λf W' h=>h.congr rfl) (λf W' hf h=>by go_simp) ?_
 try simp only[zzQ]
 refine zab (v:=St a) (by rfl) (λf W' h=>h.congr rfl) (λf W' hf h=>by obtain⟨q0,q1,q2,q3⟩:=h.cells;go_simp) ?_
 try simp only[zzQ]
 refine zab (v:=.pointer (some ⟨w.heap.size+1,1,none⟩)) (by rfl) (λf W' h=>h.congr rfl) (λf W' hf h=>by go_simp) ?_
 try simp only[zzQ]
 refine zab (v:=St d) (by rfl) (λf W' h=>h.congr rfl) (λf W' hf h=>by obtain⟨q0,q1,q2,q3⟩:=h.cells;go_simp) ?_
 try simp only[zzQ]
 refine zar (St r) (by rfl) (λf W' hf h C' hC'=>by
  go_simp;refine zzM (M1.out _ (HW.out.below h.bel)) λw' hb=>?_;exact⟨rfl,hC' _ ((h.next hb).congr rfl)⟩) ?_
 try simp only[zzQ]
 refine zab (v:=.pointer (some ⟨w.heap.size,1,none⟩)) (by rfl) (λf W' h=>h.congr rfl) (λf W' hf h=>by go_simp) ?_
 try simp only[zzQ]
 refine zab (v:=St b) (by rfl) (λf W' h=>h.congr rfl) (λf W' hf h=>by obtain⟨q0,q1,q2,q3⟩:=h.cells;go_simp) ?_
 try simp only[zzQ]
 refine zab (v:=.pointer (some ⟨w.heap.size+1,0,none⟩)) (by rfl) (λf W' h=>h.congr rfl) (λf W' hf h=>by go_simp) ?_
 try simp only[zzQ]
 refine zab (v:=St c) (by rfl) (λf W' h=>h.congr rfl) (λf W' hf h=>by obtain⟨q0,q1,q2,q3⟩:=h.cells;go_simp) ?_
 try simp only[zzQ]
 refine zar (St s) (by rfl) (λf W' hf h C' hC'=>by
  go_simp;refine zzM (M2.out _ (HW.out.below h.bel)) λw' hb=>?_;exact⟨rfl,hC' _ ((h.next hb).congr rfl)⟩) ?_
 try simp only[zzQ]
 refine zab (v:=.agg #[St r,St s]) (by rfl) (λf W' h=>h.congr rfl) (λf W' hf h=>by go_simp) ?_
 try simp only[zzQ]
 refine zar undef (by rfl) (λf W' hf h C' hC'=>by
  have h11:=hf.self;obtain⟨f0,f1⟩:=h.soft;obtain⟨f2,f3⟩:=h.old h11;go_simp;exact⟨rfl,hC' _ (h.put h11)⟩) ?_
 try simp only[Act.put]
 refine zck λf X hf h=>?_;obtain⟨c0,c1⟩:=h.new (hf 11 (by decide));have hB:=hid h.bel;clear h hf;go_wp21;exact bodyPost_ret (v:=.agg #[St r,St s]) (by simp[results,Tryz.results366,go_sem,c0,c1]) rfl ⟨rfl,hB.out⟩
theorem z8n (x:ByteArray) (h0:(x.toList==[48])=false) (w:zA) (N:Hid (zC zF 255 #[.string x] w λe w'=>e=.returned (.bool false)/\w'=w)):
 zC zF 365 #[.string x] w λe w'=>e=.returned (.int .i64 1)/\w'=w:=by
 go_enter Tryz.func365,Tryz.ntmps365;go_wp21;refine N.out.mono ?_;rintro e w' ⟨rfl,rfl⟩;go_wp21;go_ret;exact⟨rfl,rfl⟩
theorem z1n (x y:ByteArray)
 (CK:Hid (∀W:zA,Wd W->zC zF 185 #[.slice (some ⟨W.heap.size,0,none⟩) 2 2,.slice (some ⟨W.heap.size+1,0,none⟩) 1 1] ((W.alloc (.cells #[.string x,.string y] 30)).alloc (.cells #[.string x] 30)) λe w'=>e=.returned (.int .i64 0)/\Below W.heap.size W w'))
 (SG:Hid (∀W:zA,zC zF 365 #[.string y] W λe w'=>e=.returned (.int .i64 1)/\w'=W)) (w:zA) (HW:Hid (Wd w)):
 qJ 347 #[.string x,.string y] w (.int .i64 0):=by
 have HC:=hid (CK.out w HW.out);clear CK;go_enter Tryz.func347,Tryz.ntmps347;go_wp21;refine zzM HC.out λw2 hb2=>?_;have HB2:=hid hb2;clear hb2 HC;go_wp21;refine(SG.out w2).mono ?_;rintro e w' ⟨rfl,rfl⟩;go_wp21;go_ret;exact⟨rfl,HB2.out⟩
structure UntS (w:zA) (a:Nat) (un ud on od:List UInt8) (b:Nat) (f:Nat->Bool) (W:zA):Prop where
 bel:qL w W
 hu:W.heap[a]? =some (.cells #[St un,St ud] 235 (0,0))
 ge:f 6=true->w.heap.size<=b
 h6:f 6=true->f 7=false->W.heap[b]? =some (.cells #[St [],St []] 235 (0,0))
 h7:f 7=true->W.heap[b]? =some (.cells #[St on,St od] 235 (0,0))
section
variable {w W W':zA} {a b:Nat} {un ud on od:List UInt8} {f g:Nat->Bool}
theorem UntS.congr (h:UntS w a un ud on od b f W) (e6:g 6=f 6) (e7:g 7=f 7):UntS w a un ud on od b g W:=⟨h.bel,h.hu,by rw[e6];exact h.ge,by rw[e6,e7];exact h.h6,by rw[e7];exact h.h7⟩
theorem UntS.next (h:UntS w a un ud on od b f W) (hb:qL W W'):UntS w a un ud on od b f W':=
 have hc:=zac hb
 ⟨h.bel.trans (hb.mono h.bel.size),hc _ _ _ _ h.hu,h.ge,λe e'=>hc _ _ _ _ (h.h6 e e'),λe=>hc _ _ _ _ (h.h7 e)⟩
theorem UntS.cells (h:UntS w a un ud on od b f W):W.cell? ⟨a,0,none⟩=some (St un)/\W.cell? ⟨a,1,none⟩=some (St ud):=
 ⟨by rw[zJ h.hu];rfl,by rw[zJ h.hu];rfl⟩
theorem UntS.old (h:UntS w a un ud on od b f W) (e6:f 6=true) (e7:f 7=false):W.cell? ⟨b,0,none⟩=some (St [])/\W.cell? ⟨b,1,none⟩=some (St [])/\W.frozen? ⟨b,0,none⟩=false/\W.frozen? ⟨b,1,none⟩=false:=
 ⟨by rw[zJ (h.h6 e6 e7)];rfl,by rw[zJ (h.h6 e6 e7)];rfl,Go.Joins.unfrozen_of_block (h.h6 e6 e7) 0,Go.Joins.unfrozen_of_block (h.h6 e6 e7) 1⟩
theorem UntS.put (h:UntS w a un ud on od b f W) (e6:f 6=true) (e7:f 7=false) (hne:a≠b):UntS w a un ud on od b (λj=>if 7=j then true else f j) ((W.setCell ⟨b,0,none⟩ (St on)).setCell ⟨b,1,none⟩ (St od)):=by
 have hg:=h.ge e6;refine⟨(h.bel.setCell (p:=⟨b,0,none⟩) hg _).setCell (p:=⟨b,1,none⟩) hg _,?_,λ_=>hg,λ_ k=>(by simp at k),λ_=>?_⟩
 ·rw[yE _ _ _ _ (by exact hne),yE _ _ _ _ (by exact hne)];exact h.hu
 ·exact zK (i:=1) (zK (i:=0) (h.h6 e6 e7) (St on)) (St od)
theorem UntS.new (h:UntS w a un ud on od b f W) (e7:f 7=false):UntS w a un ud on od W.heap.size (λj=>if 6=j then true else f j) (W.alloc (.cells #[St [],St []] 235)):=
 have hb:qL W (W.alloc (.cells #[St [],St []] 235)):=(zM _ W).alloc (zN _) _
 ⟨h.bel.trans (hb.mono h.bel.size),zac hb _ _ _ _ h.hu,λ_=>h.bel.size,λ_ _=>zG _ _,λk=>(by have k':f 7=true:=(by simpa using k);rw[e7] at k';cases k')⟩
end
theorem z3s (q u fac qn qd un ud tn td on od m fl rt:List UInt8)
 (OQ:Hid (qK 186 #[St q] (.agg #[St qn,St qd])))
 (OU:Hid (qK 186 #[St u] (.agg #[St un,St ud])))
 (TM:Hid (qK 367 #[.agg #[St un,St ud],.agg #[St un,St ud]] (.agg #[St tn,St td])))
 (OV:Hid (qK 366 #[.agg #[St qn,St qd],.agg #[St tn,St td]] (.agg #[St on,St od])))
 (ML:Hid (qK 189 #[St on,St fac] (St m)))
 (FL:Hid (qK 368 #[.agg #[St m,St od]] (St fl)))
 (RT:Hid (qK 205 #[St fl] (.tuple #[St rt,.int .i64 0])))
 (w:zA) (HW:Hid (Wd w)):
 qJ 349 #[St q,St u,St fac] w (St rt):=by
 go_enter Tryz.func349,Tryz.ntmps349;go_wp21;refine zzM (OU.out w HW.out) λw1 hb1=>?_;obtain⟨v1,hv⟩:=zzX (w1.alloc (.cells #[St un,St ud] 235));have a1:qL w1 v1:=by rw[hv];exact(zM _ w1).alloc (zN _) _
 have A1:v1.heap[w1.heap.size]? =some (.cells #[St un,St ud] 235 (0,0)):=by rw[hv];exact zG w1 _
 have HV:=hid hv.symm;have E1:=hid (hb1.trans (a1.mono hb1.size));have B1:=hid A1;have hlt:=(Array.getElem?_eq_some_iff.1 A1).1;have HL:=hid hlt;clear hv a1 A1 hb1 hlt;go_wp21
 try rw[show w1.alloc (.cells #[.string ⟨un.toArray⟩,.string ⟨ud.toArray⟩] 235)=v1 from HV.out]
 clear HV;generalize w1.heap.size=a at*
 refine zc4 (λ(b:Nat) i=>([St q,.agg #[St qn,St qd],.agg #[St un,St ud],.agg #[St un,St ud],.agg #[St tn,St td],.agg #[St on,St od],.pointer (some ⟨b,0,none⟩)]:List Value).getD i undef) (UntS v1 a un ud on od) (by kernel_rfl) (by kernel_rfl) 0 ⟨(zM _ v1).drew,B1.out,λk=>(by cases k),λk=>(by cases k),λk=>(by cases k)⟩ λb=>?_;refine qB (St q) (λf W' h=>h.congr rfl rfl) ?_;simp only[zzQ]
 refine zbv (.agg #[St qn,St qd]) (by rfl) (by rfl) (λf W' hf h C' hC'=>by
  go_simp;refine zzM (OQ.out _ (HW.out.below (E1.out.trans (h.bel.mono E1.out.size)))) λw' hb=>?_;exact⟨_,rfl,hC' _ ((h.next hb).congr rfl rfl)⟩) ?_
 refine qB (.agg #[St un,St ud]) (λf W' h=>h.congr rfl rfl) ?_ (hy:=λf W' hf h=>by obtain⟨q0,q1⟩:=h.cells;go_simp);refine qB (.agg #[St un,St ud]) (λf W' h=>h.congr rfl rfl) ?_ (hy:=λf W' hf h=>by obtain⟨q0,q1⟩:=h.cells;go_simp);simp only[zzQ]
 refine zbv (.agg #[St tn,St td]) (by rfl) (by rfl) (λf W' hf h C' hC'=>by
  go_simp;refine zzM (TM.out _ (HW.out.below (E1.out.trans (h.bel.mono E1.out.size)))) λw' hb=>?_;exact⟨_,rfl,hC' _ ((h.next hb).congr rfl rfl)⟩) ?_
 try simp only[zzQ]
 refine zbv (.agg #[St on,St od]) (by rfl) (by rfl) (λf W' hf h C' hC'=>by
  go_simp;refine zzM (OV.out _ (HW.out.below (E1.out.trans (h.bel.mono E1.out.size)))) λw' hb=>?_;exact⟨_,rfl,hC' _ ((h.next hb).congr rfl rfl)⟩) ?_
 try simp only[zzQ]
 refine zdc (.pointer (some ⟨b,0,none⟩)) (by rfl) (by rfl) (λf W' hf h C' hC'=>by
  have h7:=hf.no (j:=7) hf.self (by kernel_rfl);have:=hC' W'.heap.size (W'.alloc (.cells #[St [],St []] 235)) (λi hi=>?_) (h.new h7)
  ·go_simp
   exact this
  ·match i,hi with
   |0,_|1,_|2,_|3,_|4,_|5,_=>rfl
   |6,hi=>rw[hf.self] at hi;cases hi
   |_+7,_=>rfl) ?_
 try simp only[zzQ]
 refine zbv undef (by rfl) (by rfl) (λf W' hf h C' hC'=>by
  have h7:=hf.self;have h6:=hf.done 6 (by kernel_rfl);obtain⟨q0,q1,q2,q3⟩:=h.old h6 h7;have hge:=h.ge h6;have:=hC' _ (h.put h6 h7 (by have:=HL.out;omega));go_simp;exact this) ?_
 try simp only[Act.put]
 refine ze1 λf X hf h=>?_;have h7:=h.h7 (hf 7 (by decide));have hge:=h.ge (hf 6 (by decide));have E2:=hid (E1.out.trans (h.bel.mono E1.out.size));have hge2:=zO E1.out.size hge;have HB:=hid h7;have q0:X.cell? ⟨b,0,none⟩=some (St on):=by rw[zJ h7];rfl
 have q1:X.cell? ⟨b,1,none⟩=some (St od):=by rw[zJ h7];rfl
 clear hf h h7 hge E1 B1 HL OQ OU TM OV;go_wp21;refine zzM (ML.out X (HW.out.below E2.out)) λw2 hb2=>?_;have E3:=hid (E2.out.trans (hb2.mono E2.out.size));have B3:=zac hb2 _ _ _ _ HB.out;have HB3:=hid B3;clear q0 q1;have q0:w2.cell? ⟨b,0,none⟩=some (St on):=by rw[zJ B3];rfl
 have q1:w2.cell? ⟨b,1,none⟩=some (St od):=by rw[zJ B3];rfl
 have q2:=Go.Joins.unfrozen_of_block B3 0;obtain⟨y2,hy2⟩:=zzX (w2.setCell ⟨b,0,none⟩ (St m));have r0:y2.cell? ⟨b,0,none⟩=some (St m):=by rw[hy2,zJ (zK (i:=0) B3 (St m))];rfl
 have r1:y2.cell? ⟨b,1,none⟩=some (St od):=by rw[hy2,zJ (zK (i:=0) B3 (St m))];rfl
 have E4:Hid (qL w y2):=hid (by rw[hy2];exact E3.out.setCell (p:=⟨b,0,none⟩) hge2 _);rw[hy2] at r0 r1;have HY:=hid hy2.symm;clear hb2 E2 HB ML B3 hge2 hy2;go_wp21
 try rw[show w2.setCell ⟨b,0,none⟩ (.string ⟨m.toArray⟩)=y2 from HY.out]
 clear HY r0 r1 q0 q1 q2;refine zzM (FL.out y2 (HW.out.below E4.out)) λw3 hb3=>?_;have E5:=hid (E4.out.trans (hb3.mono E4.out.size));clear hb3;go_wp21;refine zzM (RT.out w3 (HW.out.below E5.out)) λw4 hb4=>?_;have E6:=hid (E5.out.trans (hb4.mono E5.out.size));clear hb4;go_wp21;go_ret;exact⟨rfl,E6.out⟩
theorem z3v (q u rt z:List UInt8)
 (UE:Hid (qK 347 #[St q,St u] (.int .i64 0)))
 (UN:Hid (qK 349 #[St q,St u,.string ⟨#[49]⟩] (St rt)))
 (MU:Hid (qK 348 #[St rt,St u] (St z)))
 (w:zA) (HW:Hid (Wd w)):
 qJ 322 #[St q,St u] w (.tuple #[St z,.int .i64 0]):=by
 go_enter Tryz.func322,Tryz.ntmps322;go_wp21;refine zzM (UE.out w HW.out) λw1 hb1=>?_;have E1:=hid hb1;clear hb1;go_wp21;refine zzM (UN.out w1 (HW.out.below E1.out)) λw2 hb2=>?_;have E2:=hid (E1.out.trans (hb2.mono E1.out.size));clear hb2;go_wp21;refine zzM (MU.out w2 (HW.out.below E2.out)) λw3 hb3=>?_;have E3:=hid (E2.out.trans (hb3.mono E2.out.size));clear hb3;go_wp21;go_ret2;exact⟨rfl,E3.out⟩
theorem z93 (W:zA) (t:TypeId) (p q:Rat):
 RowNums (some ⟨W.heap.size,0,none⟩) 2 (λi=>if i=0 then p else q) ((W.alloc (.cells #[St (numS p),St (numS q)] t)).alloc (.cells #[St (numS p)] t))/\
 RowNums (some ⟨W.heap.size+1,0,none⟩) 1 (λ_=>p) ((W.alloc (.cells #[St (numS p),St (numS q)] t)).alloc (.cells #[St (numS p)] t)):=by
 have A1:=(Below.heap_alloc (W.alloc (.cells #[St (numS p),St (numS q)] t)) (.cells #[St (numS p)] t) W.heap.size (by simp)).trans (zG W (.cells #[St (numS p),St (numS q)] t (0,0)));have A2:=zG (W.alloc (.cells #[St (numS p),St (numS q)] t)) (.cells #[St (numS p)] t (0,0));rw[zH] at A2;constructor
 ·intro i hi
  refine⟨_,_,rfl,?_⟩;rw[zJ A1]
  match i,hi with
  |0,_|1,_=>rfl
 ·intro i hi
  refine⟨_,_,rfl,?_⟩;rw[zJ A2]
  match i,hi with
  |0,_=>rfl
theorem z8o (q u:Rat) (i j s:Nat) (hq:0<=q) (hu:0<u) (hi:0<i) (hj:0<j) (hij:i+2*j<=190) (hi9:i<=90) (hj9:j<=90) (sq:sz q i) (su:sz u j)
 (hs:s*s<=q.num.natAbs*(u.den*u.den)/(q.den*(u.num.natAbs*u.num.natAbs))/\q.num.natAbs*(u.den*u.den)/(q.den*(u.num.natAbs*u.num.natAbs))<(s+1)*(s+1)) (w:zA) (hw:Wd w):
 qJ 322 #[St (numS q),St (numS u)] w (.tuple #[St (numS ((s:Rat)*u)),.int .i64 0]):=by
 have hu0:u≠0:=by grind
 have hqn:0<=q.num:=Rat.num_nonneg.2 hq;have hun:0<=u.num:=Rat.num_nonneg.2 (Rat.le_of_lt hu);have hup:0<u.num.natAbs:=by
  have:u.num≠0:=λe=>hu0 (Rat.num_eq_zero.1 e);omega
 have okq:=zd0 (k:=i) (by omega) (by omega) sq;have oku:=zd0 (k:=j) (by omega) (by omega) su;have dq:=zok (k:=90) (by omega) (sq.mono hi9);have du:=zok (k:=90) (by omega) (su.mono hj9);have iq:itoa q.num=zD q.num.natAbs:=by
  have:=Str.zad q.num.natAbs;rwa [show((q.num.natAbs:Nat):Int)=q.num by omega] at this
 have iu:itoa u.num=zD u.num.natAbs:=by
  have:=Str.zad u.num.natAbs;rwa [show((u.num.natAbs:Nat):Int)=u.num by omega] at this
 obtain⟨q1,q2⟩:=sq;obtain⟨u1,u2⟩:=su;have su':sz u j:=⟨u1,u2⟩;have okn:u.num.natAbs*u.num.natAbs<10^(j+j):=zcc u1 u1;have okd:u.den*u.den<10^(j+j):=zcc u2 u2;have k1:q.num.natAbs*(u.den*u.den)<10^(i+(j+j)):=zcc q1 okd;have k2:q.den*(u.num.natAbs*u.num.natAbs)<10^(i+(j+j)):=zcc q2 okn;have len:∀{x k:Nat},0<k->k<=300->x<10^k->(zD x).length<=300:=λ{x k} h0 h3 h=>zO (zil h0 h) h3;have hD:0<q.den*(u.num.natAbs*u.num.natAbs):=Nat.mul_pos q.den_pos (Nat.mul_pos hup hup);have hNd:=Nat.div_le_self (q.num.natAbs*(u.den*u.den)) (q.den*(u.num.natAbs*u.num.natAbs));have k3:q.num.natAbs*(u.den*u.den)/(q.den*(u.num.natAbs*u.num.natAbs))<10^(i+(j+j)):=Nat.lt_of_le_of_lt hNd k1;have hsl:s<10^(i+(j+j)):=Nat.lt_of_le_of_lt (zO (Nat.le_mul_self s) hs.1) k3;have ss:sz (s:Rat) (i+(j+j)):=⟨by rw[show((s:Rat)).num=(s:Int) from rfl];simpa using hsl,by rw[show((s:Rat)).den=1 from rfl];exact Nat.one_lt_pow (by omega) (by omega)⟩;have d1:zD 1=[49]:=by rw[zae (by omega)];rfl
 refine z3v (numS q) (numS u) (zD s) _ (hid λW hW=>?_) (hid λW hW=>?_) (hid λW hW=>?_) w (hid hw)
 ·refine z1n ⟨(numS q).toArray⟩ ⟨(numS u).toArray⟩ (hid λW hW=>?_) (hid λW=>?_) W (hid hW)
  ·obtain⟨t1,t2⟩:=z93 W 30 q u
   have hal:qL W ((W.alloc (.cells #[St (numS q),St (numS u)] 30)).alloc (.cells #[St (numS q)] 30)):=((zM _ W).alloc (zN _) _).alloc (by simp) _;refine(zji _ _ 2 1 2 1 _ _ (by omega) (by omega) (hid λi _ W hW=>?_) (hid λi _ W hW=>?_) (hid λi _=>?_) (hid λi _ W=>?_) _ (hid (hW.below hal)) (hid t1) (hid t2)).mono ?_
   ·show zC _ _ #[St (numS (if i=0 then q else u))] _ _
    split
    ·exact zfj q okq W hW
    ·exact zfj u oku W hW
   ·by_cases c:i=0
    ·simp only[c,if_true];exact zio q okq W hW
    ·simp only[c,if_false];exact zio u oku W hW
   ·by_cases c:i=0
    ·simp only[c,if_true];exact dq
    ·simp only[c,if_false];exact du
   ·exact zma q hqn W
   ·rintro e w' ⟨rfl,hb⟩
    exact⟨rfl,hal.trans (hb.mono hal.size)⟩
  ·refine z8n _ ?_ W (hid (zma u hun W))
   rw[ByteArray.toList_eq,beq_eq_false_iff_ne];exact λh=>hu0 ((zpy u).1 (by simpa using h))
 ·rw[<-d1]
  refine z3s (numS q) (numS u) (zD 1) (zD q.num.natAbs) (zD q.den) (zD u.num.natAbs) (zD u.den) (zD (u.num.natAbs*u.num.natAbs)) (zD (u.den*u.den)) (zD (q.num.natAbs*(u.den*u.den))) (zD (q.den*(u.num.natAbs*u.num.natAbs))) (zD (q.num.natAbs*(u.den*u.den))) (zD (q.num.natAbs*(u.den*u.den)/(q.den*(u.num.natAbs*u.num.natAbs)))) (zD s)
   (hid λW hW=>?_) (hid λW hW=>?_) (hid λW hW=>?_) (hid λW hW=>?_) (hid λW hW=>?_) (hid λW hW=>?_) (hid λW hW=>?_) W (hid hW)
  ·have:=zio q okq W hW;rwa [iq] at this
  ·have:=zio u oku W hW;rwa [iu] at this
  ·exact z3r _ _ _ _ _ _ (hid λW hW=>zs4 _ _ (len hj (by omega) u1) (len hj (by omega) u1) (len (by omega) (by omega) okn) W hW) (hid λW hW=>zs4 _ _ (len hj (by omega) u2) (len hj (by omega) u2) (len (by omega) (by omega) okd) W hW) W (hid hW)
  ·exact z5y _ _ _ _ _ _ (hid λW hW=>zs4 _ _ (len hi (by omega) q1) (len (by omega) (by omega) okd) (len (by omega) (by omega) k1) W hW) (hid λW hW=>zs4 _ _ (len hi (by omega) q2) (len (by omega) (by omega) okn) (len (by omega) (by omega) k2) W hW) W (hid hW)
  ·have:=zs4 (q.num.natAbs*(u.den*u.den)) 1 (len (by omega) (by omega) k1) (by rw[d1];simp) (by rw[Nat.mul_one];exact len (by omega) (by omega) k1) W hW
   rwa [Nat.mul_one] at this
  ·exact z5w _ _ hD (len (by omega) (by omega) k1) (len (by omega) (by omega) k2) W hW
  ·exact zvx _ s hs (zO (zil (by omega) k3) (by omega)) W hW
 ·rw[<-zhe]
  exact zyk _ _ _ W (hid (zjf (s:Rat) u (i+(j+j)) j (by omega) hj (by omega) ss su' W hW))
theorem nm_q:numS (mkRat 1 10)=[49,47,49,48]/\numS (mkRat 1 1000)=[49,47,49,48,48,48]/\numS (mkRat 1 2)=[49,47,50]/\numS (mkRat 1 3)=[49,47,51]/\numS (mkRat 5 6)=[53,47,54]/\numS (mkRat 7 5)=[55,47,53]/\numS (mkRat 3 2)=[51,47,50]:=by
 refine⟨?_,?_,?_,?_,?_,?_,?_⟩<;>decide+kernel
theorem sz_q:sz (mkRat 1 10) 2/\sz (mkRat 1 1000) 4/\sz (mkRat 1 10000) 5/\sz (mkRat 7071 5000) 4/\sz (mkRat 7071 500) 4/\sz (mkRat 7 5) 2/\sz (mkRat 13 10) 2/\sz (mkRat 3 2) 2/\sz (mkRat 1 2) 1/\sz (mkRat 1 3) 1:=by
 refine⟨⟨?_,?_⟩,⟨?_,?_⟩,⟨?_,?_⟩,⟨?_,?_⟩,⟨?_,?_⟩,⟨?_,?_⟩,⟨?_,?_⟩,⟨?_,?_⟩,⟨?_,?_⟩,⟨?_,?_⟩⟩<;>decide+kernel
theorem z6u (a b c:Rat) (i j:Nat) (hi:0<i) (hj:0<j) (hij:i+j<300) (ha:sz a i) (hb:sz b j) (h:a+b=c) (W:zA) (hW:Wd W):qJ 12 #[St (numS a),St (numS b)] W (.tuple #[St (numS c),.int .i64 0]):=by
 rw[<-h];exact zje a b i j hi hj hij ha hb W hW
theorem ydc (a b c:Rat) (i j:Nat) (hi:0<i) (hj:0<j) (hij:i+j<300) (ha:sz a i) (hb:sz b j) (h:a-b=c) (W:zA) (hW:Wd W):qJ 10 #[St (numS a),St (numS b)] W (.tuple #[St (numS c),.int .i64 0]):=by
 rw[<-h];exact ztz a b i j hi hj hij ha hb W hW
theorem ydd (a b c:Rat) (hb0:b≠0) (i j:Nat) (hi:0<i) (hj:0<j) (hij:i+j<=300) (ha:sz a i) (hb:sz b j) (h:a/b=c) (W:zA) (hW:Wd W):qJ 101 #[St (numS a),St (numS b)] W (.tuple #[St (numS c),.int .i64 0]):=by
 rw[<-h];exact zoj a b hb0 i j hi hj hij ha hb W hW
theorem ycf (W:zA) (hW:Wd W):
 qJ 279 #[.agg #[St (numS 1),St (numS 2)],St (numS (mkRat 1 10000))] W (.tuple #[St (numS (mkRat 7071 5000)),.int .i64 0]):=by
 have h1:St (numS 1)=.string ⟨#[49]⟩:=by rw[zfc]
 rw[h1];refine z8z (numS 2) _ (numS 2) _ (hid λV hV=>?_) (hid λV hV=>?_) (hid λV hV=>?_) W (hid hW)
 ·have:=zs5 1 1 1 zb7.2.1 zb7.2.1 (by decide+kernel) V hV
  rw[h1] at this;exact this
 ·have:=zs5 1 2 2 zb7.2.1 zb7.2.2.1 (by decide+kernel) V hV
  rw[h1] at this;exact this
 ·have:=z8o 2 (mkRat 1 10000) 1 5 14142 (by decide) (by decide+kernel) (by omega) (by omega) (by omega) (by omega) (by omega) zb7.2.2.1 sz_q.2.2.1 (by decide+kernel) V hV
  rw[show((14142:Nat):Rat)*mkRat 1 10000=mkRat 7071 5000 by decide+kernel] at this;exact this
theorem ya3 (W:zA) (hW:Wd W):
 qJ 280 #[St (numS (mkRat 7071 5000)),St (numS (mkRat 1 10))] W (.tuple #[St (numS (mkRat 7 5)),.int .i64 0]):=by
 refine z5d _ _ (numS (mkRat 7071 500)) (numS 14) _ (hid λV hV=>?_) (hid λV hV=>?_) (hid λV hV=>?_) W (hid hW)
 ·exact ydd _ _ _ (by decide+kernel) 4 2 (by omega) (by omega) (by omega) sz_q.2.2.2.1 sz_q.1 (by decide+kernel) V hV
 ·have hn:=λU=>zbm (mkRat 7071 500) ⟨by decide+kernel,by decide+kernel⟩ U
  rw[show(mkRat 7071 500).num=7071 by decide+kernel,show(mkRat 7071 500).den=500 by decide+kernel] at hn;have:=z8m ⟨(numS (mkRat 7071 500)).toArray⟩ 7071 500 14 (by omega) (by omega) (by decide+kernel) (by omega) (by omega) ⟨by omega,by omega⟩ (hid hn) V (hid hV);rw[<-zha 14] at this;exact this
 ·exact z61 _ _ _ 2 2 (by omega) (by omega) (by omega) ⟨by decide,by decide⟩ sz_q.1 (by decide+kernel) V hV
theorem ycg (g cap:Nat) (W:zA) (h:Er g W):
 qJ 213 #[.slice (some ⟨g,0,none⟩) 1 cap,St (numS (mkRat 1 10))] W (.tuple #[St (numS (mkRat 13 10)),.int .i64 0]):=by
 refine z81 g cap (numS 1) (numS 2) _ (numS (mkRat 1 10000)) (numS (mkRat 7071 5000)) (numS (mkRat 7071 5000)) (numS (mkRat 7 5)) _ (hid λV hV=>?_) (hid λV hV=>ycf V hV) (hid λV hV=>?_) (hid λV hV=>ya3 V hV) (hid λV hV=>?_) W (hid h.ew.wd) (hid ⟨h.c0,h.c1⟩)
 ·have:=z61 (mkRat 1 10) (mkRat 1 1000) (mkRat 1 10000) 2 4 (by omega) (by omega) (by omega) sz_q.1 sz_q.2.1 (by decide+kernel) V hV
  rw[show St (numS (mkRat 1 1000))=.string ⟨#[49,47,49,48,48,48]⟩ by rw[nm_q.2.1]] at this;exact this
 ·have:=z6u 0 (mkRat 7071 5000) (mkRat 7071 5000) 1 4 (by omega) (by omega) (by omega) zb7.1 sz_q.2.2.2.1 (by decide+kernel) V hV
  rw[show St (numS 0)=.string ⟨#[48]⟩ by rw[nm0]] at this;exact this
 ·exact ydc (mkRat 7 5) (mkRat 1 10) (mkRat 13 10) 2 2 (by omega) (by omega) (by omega) sz_q.2.2.2.2.2.1 sz_q.1 (by decide+kernel) V hV
theorem ybn (g cap:Nat) (hc:1<=cap) (W:zA) (h:Er g W):
 qJ 69 #[.slice (some ⟨g,0,none⟩) 1 cap,.int .i64 1] W (.tuple #[.agg #[St (numS (mkRat 7 5)),St (numS (mkRat 3 2))],.int .i64 0]):=by
 refine z9j g cap _ _ (Er g) (λ_ _ h hb=>h.below hb) (hid λV hV=>?_) (hid λV hV=>?_) W (hid h)
 ·refine z5r _ cap 1 (Er g) (λ_ _ h hb=>h.below hb) (hid λU hU=>z8k g cap hc U hU) (hid λU hU=>ya2 _ cap 1 U (hid ?_)) V (hid hV)
  refine ya1 _ cap 1 (λ_=>⟨(numS 1).toArray⟩) (λ_=>⟨(numS 2).toArray⟩) (by omega) (hid λi _ X hX=>?_) U (hid hU.ew.wd) (hid λi hi=>?_)
  ·refine z9k (numS 1) (numS 2) (hid λY hY=>?_) X (hid hX)
   exact yag (numS 1) (itoa (1:Rat).num) (zD (1:Rat).den) _ rfl (by decide+kernel) (by decide+kernel) Y (hid hY) (hid λZ hZ=>zk5 1 (zm5 zb7.2.1) Z hZ)
  ·obtain rfl:i=0:=by omega
   exact⟨g,0,rfl,hU.c0,hU.c1⟩
 ·have h10:St (numS (mkRat 1 10))=.string ⟨#[49,47,49,48]⟩:=by rw[nm_q.1]
  rw[<-h10];refine yae g cap _ (numS (mkRat 13 10)) _ _ (Er g) (λ_ _ h hb=>h.below hb) (λ_ h=>h.ew.wd) (hid λU hU=>ycg g cap U hU) (hid λU hU=>?_) (hid λU hU=>?_) (hid λU hU=>?_) (hid λU hU=>?_) (hid λU hU=>?_) V (hid hV)
  ·exact z3q (mkRat 13 10) (by decide+kernel) sz_q.2.2.2.2.2.2.1 130000 (by decide+kernel) 13000 (by decide+kernel) (by omega) (-1) (.inr ⟨by omega,rfl⟩) g cap hc U hU
  ·exact z6u (mkRat 13 10) (mkRat 1 10) (mkRat 7 5) 2 2 (by omega) (by omega) (by omega) sz_q.2.2.2.2.2.2.1 sz_q.1 (by decide+kernel) U hU
  ·exact z3q (mkRat 7 5) (by decide+kernel) sz_q.2.2.2.2.2.1 70000 (by decide+kernel) 14000 (by decide+kernel) (by omega) (-1) (.inr ⟨by omega,rfl⟩) g cap hc U hU
  ·exact z6u (mkRat 7 5) (mkRat 1 10) (mkRat 3 2) 2 2 (by omega) (by omega) (by omega) sz_q.2.2.2.2.2.1 sz_q.1 (by decide+kernel) U hU
  ·exact z3q (mkRat 3 2) (by decide+kernel) sz_q.2.2.2.2.2.2.2.1 30000 (by decide+kernel) 15000 (by decide+kernel) (by omega) 1 (.inl ⟨by omega,rfl⟩) g cap hc U hU
theorem ybo (B c:Nat) (q:Option Addr) (W:zA) (h:Ew W) (ho:W.ownsRow B 37 2 (.slice q 1 c) 1 (zbj [(numS (-1),numS 1)])):
 qJ 68 #[.slice q 1 c] W (.tuple #[St (numS (-1)),.bool true,.int .i64 0]):=by
 have hk:=z8l (-1) (by decide) (zb7.2.2.2.2.1.mono (by omega)) B c q W h ho;obtain⟨-,g,rfl, -, -, -,hx⟩:=ztq ho (by omega);obtain⟨c0,c1⟩:=hx 0 _ rfl;exact yab g c _ W c0 (by rw[show W.cell? ⟨g,1,none⟩=some (St (numS 1)) from c1,zfc]) (hid hk)
theorem z94 (w:zA)
 (A:Hid (∀W:zA,qL w W->qJ 12 #[.string ⟨#[49,47,50]⟩,.string ⟨#[49,47,51]⟩] W (.tuple #[.string ⟨#[53,47,54]⟩,.int .i64 0])))
 (M:Hid (∀(W:zA) (a:Nat),qL w W->a<W.heap.size->a+1<W.heap.size->W.heap[a]? =some (.cells #[St [49],St [49],St [49],St [50]] 37 (0,0))->W.heap[a+1]? =some (.cells #[St [49],St [49],St [45,49],St [50]] 37 (0,0))->
   zC zF 18 #[.slice (some ⟨a,0,none⟩) 2 2,.slice (some ⟨a+1,0,none⟩) 2 2] W λe w'=>∃q c,e=.returned (.tuple #[.slice q 1 c,.int .i64 0])/\Below W.heap.size W w'/\
    ∀V:zA,qL w' V->zC zF 68 #[.slice q 1 c] V λe v'=>e=.returned (.tuple #[.string ⟨#[45,49]⟩,.bool true,.int .i64 0])/\Below V.heap.size V v'))
 (O:Hid (∀(W:zA) (g:Nat),qL w W->W.heap[g]? =some (.cells #[St [49],St [50]] 37 (0,0))->qJ 69 #[.slice (some ⟨g,0,none⟩) 1 1,.int .i64 1] W (.tuple #[.agg #[.string ⟨#[55,47,53]⟩,.string ⟨#[51,47,50]⟩],.int .i64 0]))):
 qJ 16 #[] w (.bool true):=by
 have D0:=hid (zM w.heap.size w);go_enter Tryz.func16,Tryz.ntmps16;go_wp21;refine zzM (A.out w D0.out) λw1 hb1=>?_;obtain⟨v1,hv⟩:=zzX ((w1.alloc (.cells #[St [49],St [49],St [49],St [50]] 37)).alloc (.cells #[St [49],St [49],St [45,49],St [50]] 37));have a1:qL w1 v1:=by rw[hv];exact((zM _ w1).alloc (zN _) _).alloc (by simp) _
 have A1:v1.heap[w1.heap.size]? =some (.cells #[St [49],St [49],St [49],St [50]] 37 (0,0)):=by rw[hv];exact(Below.heap_alloc _ _ _ (by simp)).trans (zG w1 _)
 have A2:v1.heap[w1.heap.size+1]? =some (.cells #[St [49],St [49],St [45,49],St [50]] 37 (0,0)):=by
  rw[hv];have:=zG (w1.alloc (.cells #[St [49],St [49],St [49],St [50]] 37)) (.cells #[St [49],St [49],St [45,49],St [50]] 37);rw[zH] at this;exact this
 have hB:=hb1.trans (a1.mono hb1.size);have HM:=hid (M.out v1 w1.heap.size hB (Array.getElem?_eq_some_iff.1 A1).1 (Array.getElem?_eq_some_iff.1 A2).1 A1 A2);have E1:=hid hB;have HV:=hid hv.symm;clear hv a1 A1 A2 hB hb1 M A D0;go_wp21;have h9:=HV.out;rw[show(w1.alloc (.cells #[.string ⟨#[49]⟩,.string ⟨#[49]⟩,.string ⟨#[49]⟩,.string ⟨#[50]⟩] 37)).alloc (.cells #[.string ⟨#[49]⟩,.string ⟨#[49]⟩,.string ⟨#[45,49]⟩,.string ⟨#[50]⟩] 37)=v1 from h9];clear h9 HV;refine HM.out.mono ?_;rintro e w2 ⟨q,c,rfl,hb2,hval⟩;have E2:=hid (E1.out.trans (hb2.mono E1.out.size));have HVL:=hid (hval w2 (zM _ _));clear hb2 hval HM E1;go_wp21;refine zzM HVL.out λw3 hb3=>?_;have hB:=E2.out.trans (hb3.mono E2.out.size);obtain⟨v3,hv⟩:=zzX (w3.alloc (.cells #[St [49],St [50]] 37));have a3:qL w3 v3:=by rw[hv];exact(zM _ w3).alloc (zN _) _
 have A3:v3.heap[w3.heap.size]? =some (.cells #[St [49],St [50]] 37 (0,0)):=by rw[hv];exact zG w3 _
 have hB3:=hB.trans (a3.mono hB.size);have HO:=hid (O.out v3 w3.heap.size hB3 A3);have E3:=hid hB3;have HV:=hid hv.symm;clear hv a3 A3 hB3 hB hb3 O HVL E2;go_wp21;have h9:=HV.out;rw[show w3.alloc (.cells #[.string ⟨#[49]⟩,.string ⟨#[50]⟩] 37)=v3 from h9];clear h9 HV;refine zzM HO.out λw4 hb4=>?_;have E4:=hid (E3.out.trans (hb4.mono E3.out.size));clear hb4 HO E3;have mx4:∀w:zA,(Builtin.max_ #[27,27,27,27] 27 #[.int .i64 0,.int .i64 0,.int .i64 0,.int .i64 0]).run zF w=.ok (.int .i64 0) w:=λ_=>by kernel_rfl
 go_wp21;go_ret;exact⟨rfl,E4.out.alloc E4.out.size _⟩
theorem ybp (w:zA) (HW:Hid (∀W,qL w W->Wd W/\Pw W/\Spw W)):
 qJ 16 #[] w (.bool true):=by
 have EW:=λ(W:zA) (h:qL w W)=>(⟨(HW.out W h).1,(HW.out W h).2.1,(HW.out W h).2.2⟩:Ew W);have n12:numS 1=[49]/\numS 2=[50]/\numS (-1)=[45,49]:=⟨zfc,nm2,nm_1⟩;refine z94 w (hid λW hW=>?_) (hid λW a hW ha ha2 h1 h2=>?_) (hid λW g hW hg=>?_)
 ·have:=z6u (mkRat 1 2) (mkRat 1 3) (mkRat 5 6) 1 1 (by omega) (by omega) (by omega) sz_q.2.2.2.2.2.2.2.2.1 sz_q.2.2.2.2.2.2.2.2.2 (by decide+kernel) W (EW W hW).wd
  rw[nm_q.2.2.1,nm_q.2.2.2.1,nm_q.2.2.2.2.1] at this;exact this
 ·have k1:∀o u,(#[St [49],St [49],St [49],St [50]]:Array Value)[o]? =some u->W.cell? ⟨a,o,none⟩=some u:=λo u hu=>by rw[zJ h1];exact hu
  have k2:∀o u,(#[St [49],St [49],St [45,49],St [50]]:Array Value)[o]? =some u->W.cell? ⟨a+1,o,none⟩=some u:=λo u hu=>by rw[zJ h2];exact hu
  refine(ybz (some ⟨a,0,none⟩) (some ⟨a+1,0,none⟩) 2 2 (by omega) (by omega) W (hid λV hV=>((EW W hW).below hV).wd) (hid λV hV=>((EW W hW).below hV).pw) (hid λi hi=>?_) (hid λi hi=>?_)).mono λe w' ⟨q,c,e1,hb,ho⟩=>⟨q,c,e1,hb,λV hV=>?_⟩
  ·match i,hi with
   |0,_=>exact⟨a,0,rfl,ha,k1 0 _ (by show _=some (St (numS 1));rw[n12.1];rfl),k1 1 _ (by show _=some (St (numS 1));rw[n12.1];rfl)⟩
   |1,_=>exact⟨a,0,rfl,ha,k1 2 _ (by show _=some (St (numS 1));rw[n12.1];rfl),k1 3 _ (by show _=some (St (numS 2));rw[n12.2.1];rfl)⟩
  ·match i,hi with
   |0,_=>exact⟨a+1,0,rfl,ha2,k2 0 _ (by show _=some (St (numS 1));rw[n12.1];rfl),k2 1 _ (by show _=some (St (numS 1));rw[n12.1];rfl)⟩
   |1,_=>exact⟨a+1,0,rfl,ha2,k2 2 _ (by show _=some (St (numS (-1)));rw[n12.2.2];rfl),k2 3 _ (by show _=some (St (numS 2));rw[n12.2.1];rfl)⟩
  ·have:=ybo W.heap.size c q V (((EW W hW).below hb).below hV) (zcj (zac hV) ho)
   rw[n12.2.2] at this;exact this
 ·have hE:Er g W:=⟨EW W hW,by rw[n12.1,zJ hg];rfl,by rw[n12.2.1,zJ hg];rfl⟩
  have:=ybn g 1 (by omega) W hE;rw[nm_q.2.2.2.2.2.1,nm_q.2.2.2.2.2.2] at this;exact this
end
section
open Go.RowKit Go.Shelf Lib Str Limb
theorem ya4 (vs vt:Value) (ls lt:List (List UInt8×List UInt8)) (w:zA) (hw:Hw w) (h1:SdT vs ls w) (h2:SdT vt lt w):
 qJ 4 #[vs,vt] w (.bool true):=by
 obtain⟨ps,cs,rfl, -⟩:=h1.slice;obtain⟨pt,ct,rfl, -⟩:=h2.slice;refine z89 ps pt ls.length lt.length cs ct ((∃s,ls=s.map strT/\ShrS s)/\∃t,lt=t.map strT/\ShrS t) w (hid λW A hW hA=>?_) (hid λW hW=>ybp W (hid λV hV=>⟨((hw.below hW).below hV).wd,((hw.below hW).below hV).pw,((hw.below hW).below hV).sw⟩)) (hid λhG=>?_)
 ·refine(z8j (some ⟨A,0,none⟩) 2 2 (λi=>if i=0 then .slice ps ls.length cs else .slice pt lt.length ct) (λi=>if i=0 then ls else lt) (by omega) W (hw.below hW).wd (λi hi=>?_) (λi hi=>?_)).mono λe w' ⟨b,e1,e2,e3⟩=>⟨b,e1,λh=>⟨e2 h 0 (by omega),e2 h 1 (by omega)⟩,e3⟩
  ·refine⟨A,0,rfl,?_⟩
   rw[zJ hA]
   match i,hi with
   |0,_|1,_=>rfl
  ·match i,hi with
   |0,_=>exact h1.below hW
   |1,_=>exact h2.below hW
 ·obtain⟨⟨s,rfl,hs⟩,t,rfl,ht⟩:=hG
  have:=yb9 _ _ s t hs ht w hw (h1.sd rfl) (h2.sd rfl);rw[<-(List.length_map .. :(s.map strT).length=s.length)] at this;exact this
end
section
open Go.RowKit Go.Shelf Lib Str Limb
open Go.ChangeShapes Go.WideShapes Go.ChangeAt
theorem z4t {H:Type} {enc:TypeId×Value->H} {W:zA} {base:Nat} {sp:Nat->Bool} {held:Bool} {r:Reach} {b0:Nat} {v:Value} {d:DataW H} {ps:List MemPlace}
 (hval:Value.okWide zF W r b0 26 v) (hd:DataW.Trod enc zF W base sp held 26 v d ps):∃l,SdT v l W:=by
 obtain⟨a,n,c,rfl⟩:=okWide_slice Tryz.underlying26 hval;obtain⟨fuel,hf⟩:=hd;obtain⟨u,l,e,h⟩:=zu8 hf (λa' m k e=>by
  have e2:Value.slice a n c=.slice (some a') m k:=by simpa [Value.cells] using e
  rw[e2] at hval;exact z0k Tryz.underlying26 (by simpa only[Value.okWide,Tryz.underlying26] using hval))
 have hu:Value.slice a n c=u:=by simpa [Value.cells] using e
 subst hu;exact⟨l,h⟩
theorem z1v (os:Os) (started:os.Started) (H:Type) (enc:TypeId×Value->H):
 ReturnsInHanded {} Tryz.checked os 4 .any (λw args=>(Rows.topSignsSpec.pre enc zF Tryz.f4 [] false w args/\laidMetH zF Rows.topSignsRow.laid w)/\sizedMet enc zF Tryz.f4 (OpenSpec.ofChange Rows.topSignsSpec) false w args)
  (Rows.topSignsSpec.post enc zF Tryz.f4 false true false false):=by
 refine zf9 (C:=Tryz.checked) (X:=λw _=>laidMetH zF Rows.topSignsRow.laid w) (λ_ _ _ hh h=>h.of_heap hh) zrj started (by kernel_rfl) Tryz.func4
  (ChangeSpec.witness_shaped (enc:=enc) (C:=Tryz.checked) (os:=os) (X:=λw _=>laidMetH zF Rows.topSignsRow.laid w) false (World.laidAll zF os Rows.topSignsRow.laid)
    #[.slice none 0 0,.slice none 0 0] 8 (World.laidAll_os _ _ _)
    (World.shaped_of_ZipB (by kernel_rfl) (by kernel_rfl)) (by kernel_rfl) (by kernel_rfl) (by kernel_rfl)
    (by rw[MakeChecks.laidMetH_plain _ _ _ (by kernel_rfl)];exact laidMet_laidAll _ (by kernel_rfl) (by kernel_rfl))) ?_
 intro W args ds gs before base hval0 hW hL hsh;have hval:∀(j:Nat) t v,Tryz.f4.params[j]? =some t->args[j]? =some v->Value.okWide zF W .any base t v:=hval0;have hW':=hW;obtain⟨p,q,hA0,hV,rfl,_,_⟩:=hW;have hA:DataW.TrodAll enc zF W 0 (λ_=>true) true Tryz.f4.params.toList args.toList ds p:=hA0;rw[Tryz.params4] at hA hval;obtain⟨v0,vs0,d0,ds0,p0,q0,e0,rfl,rfl,h0,hA⟩:=trodAll_cons hA;obtain⟨v1,vs1,d1,ds1,p1,q1,rfl,rfl,rfl,h1,hA⟩:=trodAll_cons hA;obtain⟨rfl,rfl,rfl⟩:=trodAll_nil hA;obtain rfl:args= #[v0,v1]:=by cases args;simp_all
 obtain⟨rfl,rfl⟩:=trodVars_none hV;simp only[List.append_nil] at hW';have hlt:∀x∈p0++p1,x.block<W.heap.size:=λx hx=>by simpa using hW'.lt x (by simpa using hx)
 have k0:=h0;have k1:=h1;obtain⟨l0,hs0⟩:=z4t (hval 0 26 v0 rfl rfl) h0;obtain⟨l1,hs1⟩:=z4t (hval 1 26 v1 rfl rfl) h1;have hM:laidMet zF Rows.topSignsRow.laid W:=by rw[<-MakeChecks.laidMetH_plain _ _ _ (by kernel_rfl)];exact hL
 have hwd:Wd W:=z0v hM (.tail _ (.tail _ (.head _))) hsh;have hpw:Pw W:=z0w hM (.tail _ (.tail _ (.tail _ (.tail _ (.tail _ (.tail _ (.head _)))))));have hsw:Spw W:=z80 hM (.tail _ (.tail _ (.tail _ (.tail _ (.tail _ (.tail _ (.tail _ (.head _))))))));refine(ya4 v0 v1 l0 l1 W ⟨hwd,hpw,hsw⟩ hs0 hs1).mono λe W' ⟨he,hb⟩=>?_;subst he;have t0:=Below.trod zgh (by kernel_rfl) (of_decide_eq_true (by kernel_rfl)) k0 hb (λx hx=>hlt x (by simp[hx]));have t1:=Below.trod zgh (by kernel_rfl) (of_decide_eq_true (by kernel_rfl)) k1 hb (λx hx=>hlt x (by simp[hx]));exact⟨_,rfl,_,_,_,[],_,[],hW',trodAll_mk1 (shut_bool Tryz.underlying4 _),trodAll_mk2 t0 t1,rfl,hb.frame _,λh=>by cases h⟩
theorem ych:mapsRowed zF=true:=by kernel_rfl
theorem ycz:namedTie zF Rows.topSignsRow.named Rows.topSignsSpec.vars=true:=by kernel_rfl
theorem ybq:(Rows.topSignsRow.inPlace==Tryz.prog.inPlace 4)=true:=by kernel_rfl
theorem yc0:(Rows.topSignsRow.unfollowed==Tryz.prog.unfollowed 4)=true:=by kernel_rfl
theorem yc1:(Rows.topSignsRow.recurses==Tryz.prog.recurses 4)=true:=by kernel_rfl
theorem ybr:(Rows.topSignsRow.named==Tryz.prog.varsNamed 4)=true:=by kernel_rfl
theorem ybs:Tryz.prog.stopsHeard=true:=by kernel_rfl
theorem ybt:Tryz.prog.mayEnter=true:=by kernel_rfl
theorem ya5:(Rows.topSignsRow.lifted==Tryz.prog.liftsFinal)=true:=by kernel_rfl
theorem yci:(Tryz.prog.make==some Rows.topSignsRow.make)=true:=by kernel_rfl
theorem ycj:(Rows.topSignsRow.plainKeys==Tryz.prog.plainKeys)=true:=by kernel_rfl
theorem yck:Tryz.pinned.checked.prog.funcNamed Rows.topSignsRow.func=some 4:=by kernel_rfl
theorem yc2:joinedFacts zF 4 Tryz.f4 Rows.topSignsSpec Rows.topSignsRow=true:=by
 unfold joinedFacts;simp only[Bool.and_eq_true]
 repeat' apply And.intro
 all_goals first|with_reducible exact zgh|with_reducible exact ych|with_reducible exact ycz|with_reducible exact ybq|with_reducible exact yc0|with_reducible exact yc1|with_reducible exact ybr|with_reducible exact ybs|with_reducible exact ybt|with_reducible exact ya5|with_reducible exact yci|with_reducible exact ycj|kernel_rfl
theorem z8q:Rows.TopSignsSaid:=
 OpenClaim.holds_of_wide 4 Tryz.f4 rfl rfl rfl rfl rfl rfl rfl ⟨rfl,rfl,rfl,rfl,rfl⟩ rfl rfl rfl rfl rfl yck Tryz.func4 yc2
  (of_decide_eq_true (by kernel_rfl)) (by unfold Func.isWrapper;first|(rw[if_pos (by decide+kernel)];kernel_rfl)|(rw[if_neg (by decide+kernel)];exact⟨rfl,rfl⟩))
  (λos started H enc _=>z1v os started H enc)
end
end Go.Proofs.YtmeekcnlacckfaaGreatDoor
