/- vector.list, vector.Check; halfspace.Check, check. -/
import Derived.Test.YtccijmidbdapaaaGreatDoorJ18
import Derived.Deep.Quiet
set_option maxRecDepth 100000
set_option maxHeartbeats 8000000
open Go renaming World → zA, Calls → zC
open Go.RowKit renaming Below → zB, intOf → zL
open Go.Proofs.Tryz renaming prog → zF
open Go.World renaming alloc_heap_new → zG, size_alloc → zH
open Go.IntWalk renaming i64_in → zI
open Go.Joins renaming cell_of_block → zJ, block_setCell → zK
open Go.RowKit.Below renaming refl → zM, heap_setCell → yE
open Nat renaming le_refl → zN, zero_le → zR
open List renaming length_map → zV
namespace Go.Proofs.YtccijmidbdapaaaGreatDoor
section
open Go.RowKit Go.Shelf Lib Str Limb
attribute [local go_sem] Oper.semAt_some
theorem zda (a b c:List UInt8) (w:zA):
 qJ 79 #[.agg #[St a,St b,St c]] w (.agg #[St a,St b,St c]):=by
 go_enter Tryz.func79,Tryz.ntmps79
 go_wp2_with fail
 exact bodyPost_ret (v:=.agg #[St a,St b,St c]) (by simp[results,Tryz.results79,go_sem]) rfl ⟨rfl,((zM _ w).alloc (zN _) _).alloc (by simp) _⟩
theorem zdr (a b c:List UInt8) (w:zA):(Instr.index 140 (.agg #[St a,St b,St c]) (.int .i64 0)).run zF w=.ok (St a) w/\(Instr.index 140 (.agg #[St a,St b,St c]) (.int .i64 1)).run zF w=.ok (St b) w/\(Instr.index 140 (.agg #[St a,St b,St c]) (.int .i64 2)).run zF w=.ok (St c) w:=
 ⟨by kernel_rfl,by kernel_rfl,by kernel_rfl⟩
theorem zgk (a b c:List UInt8)
 (C0:Hid (qK 27 #[St a] (.int .i64 0)))
 (C1:Hid (qK 27 #[St b] (.int .i64 0)))
 (C2:Hid (qK 27 #[St c] (.int .i64 0)))
 (w:zA) (HW:Hid (Wd w)):
 qJ 34 #[.agg #[St a,St b,St c]] w (.int .i64 0):=by
 have n0:=λw=>(zdr a b c w).1
 have n1:=λw=>(zdr a b c w).2.1
 have n2:=λw=>(zdr a b c w).2.2
 obtain⟨v1,hv⟩:∃v1,v1=w.alloc (.cells #[St a,St b,St c] 43):=⟨_,rfl⟩
 have a1:qL w v1:=by rw[hv];exact(zM _ w).alloc (zN _) _
 have HV:=hid hv.symm
 have E1:=hid a1
 clear hv a1
 go_enter Tryz.func34,Tryz.ntmps34
 go_wp2_with fail
 have h9:=HV.out
 rw[show w.alloc (.cells #[.string ⟨a.toArray⟩,.string ⟨b.toArray⟩,.string ⟨c.toArray⟩] 43)=v1 from h9]
 clear h9 HV
 refine(zda a b c v1).mono ?_
 rintro e r0 ⟨rfl,hb⟩
 have E2:=hid (E1.out.trans (hb.mono E1.out.size))
 clear hb E1
 go_wp2_with fail
 refine wp_loop_rounds 4 ?_
 rw[rounds_succ]
 go_wp2_with fail
 refine(C0.out r0 (HW.out.below E2.out)).mono ?_
 rintro e r1 ⟨rfl,hb⟩
 have E3:=hid (E2.out.trans (hb.mono E2.out.size))
 clear hb E2
 go_wp2_with fail
 rw[rounds_succ]
 go_wp2_with fail
 refine(C1.out r1 (HW.out.below E3.out)).mono ?_
 rintro e r2 ⟨rfl,hb⟩
 have E4:=hid (E3.out.trans (hb.mono E3.out.size))
 clear hb E3
 go_wp2_with fail
 rw[rounds_succ]
 go_wp2_with fail
 refine(C2.out r2 (HW.out.below E4.out)).mono ?_
 rintro e r3 ⟨rfl,hb⟩
 have E5:=hid (E4.out.trans (hb.mono E4.out.size))
 clear hb E4
 go_wp2_with fail
 rw[rounds_succ]
 go_wp2_with fail
 go_ret
 exact⟨rfl,E5.out⟩
theorem zh5 (a b c:List UInt8) (p:Option Addr) (n k:Nat) (hz:(a==[48])=false\/((a==[48])=true/\(b==[48])=false)\/((a==[48])=true/\(b==[48])=true/\(c==[48])=false)) (w:zA)
 (FI:Hid (∀W:zA,qL w W->∀A,W.heap[A]? =some (.cells #[St a,St b,St c] 22 (0,0))->qJ 36 #[.slice (some ⟨A,0,none⟩) 3 3] W (.int .i64 0)))
 (SC:Hid (∀W:zA,qL w W->qJ 40 #[.slice p n k] W (.int .i64 0))):
 qJ 83 #[.agg #[St a,St b,St c,.slice p n k]] w (.int .i64 0):=by
 obtain⟨v1,hv⟩:∃v1,v1=(w.alloc (.cells #[St a,St b,St c,.slice p n k] 45)).alloc (.cells #[St a,St b,St c] 22):=⟨_,rfl⟩
 have b1:qL w v1:=by rw[hv];exact((zM _ w).alloc (zN _) _).alloc (by simp) _
 have A1:v1.heap[w.heap.size]? =some (.cells #[St a,St b,St c,.slice p n k] 45 (0,0)):=by rw[hv];exact(Below.heap_alloc _ _ _ (by simp)).trans (zG w _)
 have A2:v1.heap[w.heap.size+1]? =some (.cells #[St a,St b,St c] 22 (0,0)):=by
  rw[hv]
  have:=zG (w.alloc (.cells #[St a,St b,St c,.slice p n k] 45)) (.cells #[St a,St b,St c] 22)
  rw[zH] at this
  exact this
 have HF:=hid (FI.out v1 b1 _ A2)
 have B1:=hid b1;have P1:=hid A1
 have HV:=hid hv.symm
 clear hv b1 A1 A2 FI
 go_enter Tryz.func83,Tryz.ntmps83
 go_wp2_with fail
 have h9:=HV.out
 rw[show(w.alloc (.cells #[.string ⟨a.toArray⟩,.string ⟨b.toArray⟩,.string ⟨c.toArray⟩,.slice p n k] 45)).alloc (.cells #[.string ⟨a.toArray⟩,.string ⟨b.toArray⟩,.string ⟨c.toArray⟩] 22)=v1 from h9]
 clear h9 HV
 refine HF.out.mono ?_
 rintro e r1 ⟨rfl,hb⟩
 have hbb:=B1.out.trans (hb.mono B1.out.size)
 have B2:=hid hbb
 have P2:=hid (zac hb _ _ _ _ P1.out)
 have HS:=hid (SC.out r1 hbb)
 clear hb hbb B1 P1 HF SC
 have k0:r1.cell? ⟨w.heap.size,0,none⟩=some (St a):=by rw[zJ P2.out];rfl
 have k1:r1.cell? ⟨w.heap.size,1,none⟩=some (St b):=by rw[zJ P2.out];rfl
 have k2:r1.cell? ⟨w.heap.size,2,none⟩=some (St c):=by rw[zJ P2.out];rfl
 have k3:r1.cell? ⟨w.heap.size,3,none⟩=some (.slice p n k):=by rw[zJ P2.out];rfl
 rcases hz with z0|⟨z0,z1⟩|⟨z0,z1,z2⟩
 all_goals
  go_wp2_with fail
  refine HS.out.mono ?_
  rintro e r2 ⟨rfl,hb⟩
  have B3:=hid (B2.out.trans (hb.mono B2.out.size))
  clear hb
  go_wp2_with fail
  go_ret
  exact⟨rfl,B3.out⟩
def RowHf (p:Option Addr) (n:Nat) (X Y Z:Nat->List UInt8) (D:Nat->Value) (W:zA):Prop:=∀i,i<n->∃b off,p=some ⟨b,off,none⟩/\W.cell? ⟨b,off+i*4,none⟩=some (St (X i))/\W.cell? ⟨b,off+i*4+1,none⟩=some (St (Y i))/\W.cell? ⟨b,off+i*4+2,none⟩=some (St (Z i))/\W.cell? ⟨b,off+i*4+3,none⟩=some (D i)
theorem RowHf.keep {p:Option Addr} {n:Nat} {X Y Z:Nat->List UInt8} {D:Nat->Value} {W W':zA} (h:RowHf p n X Y Z D W) (hc:CellsKept W W'):RowHf p n X Y Z D W':=λi hi=>let ⟨b,off,e,h1,h2,h3,h4⟩:=h i hi;⟨b,off,e,hc.cell h1,hc.cell h2,hc.cell h3,hc.cell h4⟩
theorem zef (p:Option Addr) (cap n:Nat) (X Y Z:Nat->List UInt8) (D:Nat->Value) (hn:n<=5000) (hD:∀i,i<n->∃q m c,D i=.slice q m c) (w:zA)
 (CK:Hid (∀i,i<n->∀W:zA,qL w W->qJ 83 #[.agg #[St (X i),St (Y i),St (Z i),D i]] W (.int .i64 0))) (HP:Hid (RowHf p n X Y Z D w)):
 qJ 39 #[.slice p n cap] w (.int .i64 0):=by
 have D0:=hid (zM w.heap.size w)
 go_enter Tryz.func39,Tryz.ntmps39
 go_wp2_with fail
 go_loopw [7] (λi wr=>∃(k:Nat),k<=n/\i=.int .i64 (k:Int)/\Hid (qL w wr))
  (λi _=>n-(zL i).toNat)
 case atStart=>exact⟨0,zR _,rfl,D0⟩
 case round=>
  clear D0
  obtain⟨k,hk,rfl,hB⟩:=hrel
  by_cases hlt:k<n
  ·obtain⟨b,off,rfl,c0,c1,c2,c3⟩:=(HP.out.keep (zac hB.out)) k hlt
   have HC:=hid (CK.out k hlt)
   obtain⟨q,m,c,hd⟩:=hD k hlt
   rw[hd] at c3 HC
   generalize X k=x at*
   generalize Y k=y at*
   generalize Z k=z at*
   obtain⟨v1,hv⟩:∃v1,v1=wr.alloc (.cells #[St x,St y,St z,.slice q m c] 45):=⟨_,rfl⟩
   have a1:qL wr v1:=by rw[hv];exact(zM _ wr).alloc (zN _) _
   have hE:=hB.out.trans (a1.mono hB.out.size)
   have HE:=hid hE
   have HK:=hid (HC.out v1 hE)
   have HV:=hid hv.symm
   clear hv a1 hE hd HC
   go_wp2_with fail
   have h9:=HV.out
   rw[show wr.alloc (.cells #[.string ⟨x.toArray⟩,.string ⟨y.toArray⟩,.string ⟨z.toArray⟩,.slice q m c] 45)=v1 from h9]
   clear h9 HV c0 c1 c2 c3
   refine HK.out.mono ?_
   rintro e w2 ⟨rfl,hb2⟩
   have hB2:=qT HE hb2
   clear hb2 HK HE
   go_wp2_with fail
   go_roundw
   case rel=>exact⟨k+1,by omega,by go_num,hB2⟩
   case measure=>simp[zL];omega
  ·go_wp2_with fail
   go_ret
   exact⟨rfl,hB.out⟩
structure MkS (w:zA) (P:Nat) (x0 x1 x2:List UInt8) (p0 p1 p2:Value) (W:zA):Prop where
 bel:qL w W
 lo:w.heap.size+1<P
 h1:W.heap[w.heap.size+1]? =some (.cells #[.slice none 0 0,.slice none 0 0,.slice none 0 0] 39 (0,0))
 h2:W.heap[P]? =some (.cells #[p0,p1,p2] 86 (0,0))
 h3:W.heap[P+1]? =some (.cells #[St x0,St x1,St x2] 22 (0,0))
section
variable {w W W':zA} {P:Nat} {p0 p1 p2:Value} {x0 x1 x2:List UInt8}
theorem MkS.next (h:MkS w P x0 x1 x2 p0 p1 p2 W) (hb:qL W W'):MkS w P x0 x1 x2 p0 p1 p2 W':=
 have hc:=zac hb
 ⟨h.bel.trans (hb.mono h.bel.size),h.lo,hc _ _ _ _ h.h1,hc _ _ _ _ h.h2,hc _ _ _ _ h.h3⟩
theorem MkS.cells (h:MkS w P x0 x1 x2 p0 p1 p2 W):W.cell? ⟨P,0,none⟩=some p0/\W.cell? ⟨P,1,none⟩=some p1/\W.cell? ⟨P,2,none⟩=some p2/\
 W.cell? ⟨P+1,0,none⟩=some (St x0)/\W.cell? ⟨P+1,1,none⟩=some (St x1)/\W.cell? ⟨P+1,2,none⟩=some (St x2):=
 ⟨by rw[zJ h.h2];rfl,by rw[zJ h.h2];rfl,by rw[zJ h.h2];rfl,by rw[zJ h.h3];rfl,by rw[zJ h.h3];rfl,by rw[zJ h.h3];rfl⟩
theorem MkS.soft (h:MkS w P x0 x1 x2 p0 p1 p2 W) (i:Nat):W.frozen? ⟨P,i,none⟩=false:=Go.Joins.unfrozen_of_block h.h2 i
theorem MkS.ne (h:MkS w P x0 x1 x2 p0 p1 p2 W) (i:Nat) (u:Value):qL w (W.setCell ⟨P,i,none⟩ u)/\(∀b,b≠P->(W.setCell ⟨P,i,none⟩ u).heap[b]? =W.heap[b]?)/\W.heap.size<=(W.setCell ⟨P,i,none⟩ u).heap.size:=
 ⟨h.bel.setCell (p:=⟨P,i,none⟩) (by show _<=P;have:=h.lo;omega) _,λb hb=>yE _ _ _ _ (by exact hb),by simp[World.setCell]⟩
theorem MkS.put0 (h:MkS w P x0 x1 x2 p0 p1 p2 W) (u:Value):MkS w P x0 x1 x2 u p1 p2 (W.setCell ⟨P,0,none⟩ u):=by
 obtain⟨h1,h2,_⟩:=h.ne 0 u
 have:=h.lo
 exact⟨h1,h.lo,(h2 _ (by omega)).trans h.h1,zK (i:=0) h.h2 u,(h2 _ (by omega)).trans h.h3⟩
theorem MkS.put1 (h:MkS w P x0 x1 x2 p0 p1 p2 W) (u:Value):MkS w P x0 x1 x2 p0 u p2 (W.setCell ⟨P,1,none⟩ u):=by
 obtain⟨h1,h2,_⟩:=h.ne 1 u
 have:=h.lo
 exact⟨h1,h.lo,(h2 _ (by omega)).trans h.h1,zK (i:=1) h.h2 u,(h2 _ (by omega)).trans h.h3⟩
theorem MkS.put2 (h:MkS w P x0 x1 x2 p0 p1 p2 W) (u:Value):MkS w P x0 x1 x2 p0 p1 u (W.setCell ⟨P,2,none⟩ u):=by
 obtain⟨h1,h2,_⟩:=h.ne 2 u
 have:=h.lo
 exact⟨h1,h.lo,(h2 _ (by omega)).trans h.h1,zK (i:=2) h.h2 u,(h2 _ (by omega)).trans h.h3⟩
end
theorem zn6 (x0 x1 x2:List UInt8) (L0 L1 L2:List (Rat×Nat)) (w:zA)
 (VC:Hid (∀W:zA,qL w W->qJ 34 #[.agg #[St x0,St x1,St x2]] W (.int .i64 0)))
 (N0:Hid (∀W:zA,qL w W->zC zF 35 #[St x0] W λe w'=>∃v,e=.returned (.tuple #[v,.int .i64 0])/\zB W.heap.size W w'/\SdL v L0 w'))
 (N1:Hid (∀W:zA,qL w W->zC zF 35 #[St x1] W λe w'=>∃v,e=.returned (.tuple #[v,.int .i64 0])/\zB W.heap.size W w'/\SdL v L1 w'))
 (N2:Hid (∀W:zA,qL w W->zC zF 35 #[St x2] W λe w'=>∃v,e=.returned (.tuple #[v,.int .i64 0])/\zB W.heap.size W w'/\SdL v L2 w')):
 zC zF 10 #[.agg #[St x0,St x1,St x2]] w λe w'=>∃u0 u1 u2,e=.returned (.tuple #[.agg #[u0,u1,u2],.int .i64 0])/\zB w.heap.size w w'/\SdL u0 L0 w'/\SdL u1 L1 w'/\SdL u2 L2 w':=by
 obtain⟨v1,hv⟩:∃v1,v1=(w.alloc (.cells #[St x0,St x1,St x2] 43)).alloc (.cells #[.slice none 0 0,.slice none 0 0,.slice none 0 0] 39):=⟨_,rfl⟩
 have b1:qL w v1:=by rw[hv];exact((zM _ w).alloc (zN _) _).alloc (by simp) _
 have A1:v1.heap[w.heap.size]? =some (.cells #[St x0,St x1,St x2] 43 (0,0)):=by rw[hv];exact(Below.heap_alloc _ _ _ (by simp)).trans (zG w _)
 have A2:v1.heap[w.heap.size+1]? =some (.cells #[.slice none 0 0,.slice none 0 0,.slice none 0 0] 39 (0,0)):=by
  rw[hv]
  have:=zG (w.alloc (.cells #[St x0,St x1,St x2] 43)) (.cells #[.slice none 0 0,.slice none 0 0,.slice none 0 0] 39)
  rw[zH] at this
  exact this
 have k0:v1.cell? ⟨w.heap.size,0,none⟩=some (St x0):=by rw[zJ A1];rfl
 have k1:v1.cell? ⟨w.heap.size,1,none⟩=some (St x1):=by rw[zJ A1];rfl
 have k2:v1.cell? ⟨w.heap.size,2,none⟩=some (St x2):=by rw[zJ A1];rfl
 have HC:=hid (VC.out v1 b1)
 have B1:=hid b1;have P1:=hid A1;have P2:=hid A2
 have HV:=hid hv.symm
 clear hv b1 A1 A2 VC
 go_enter Tryz.func10,Tryz.ntmps10
 go_wp2_with fail
 have h9:=HV.out
 rw[show(w.alloc (.cells #[.string ⟨x0.toArray⟩,.string ⟨x1.toArray⟩,.string ⟨x2.toArray⟩] 43)).alloc (.cells #[.slice none 0 0,.slice none 0 0,.slice none 0 0] 39)=v1 from h9]
 clear h9 HV k0 k1 k2
 refine HC.out.mono ?_
 rintro e y1 ⟨rfl,hb⟩
 have B2:=hid (B1.out.trans (hb.mono B1.out.size))
 have a1:=zac hb _ _ _ _ P1.out
 have P4:=hid (zac hb _ _ _ _ P2.out)
 have k0:y1.cell? ⟨w.heap.size,0,none⟩=some (St x0):=by rw[zJ a1];rfl
 have k1:y1.cell? ⟨w.heap.size,1,none⟩=some (St x1):=by rw[zJ a1];rfl
 have k2:y1.cell? ⟨w.heap.size,2,none⟩=some (St x2):=by rw[zJ a1];rfl
 clear hb a1 P1 P2 B1 HC
 have al:qL y1 (y1.alloc (.cells #[.slice none 0 0,.slice none 0 0,.slice none 0 0] 86)):=(zM _ y1).alloc (zN _) _
 have k0:=zai al k0
 have k1:=zai al k1
 have k2:=zai al k2
 clear al
 obtain⟨P,hP⟩:∃P,P=y1.heap.size:=⟨_,rfl⟩
 obtain⟨t9,ht9⟩:∃t9,t9=(y1.alloc (.cells #[.slice none 0 0,.slice none 0 0,.slice none 0 0] 86)).alloc (.cells #[St x0,St x1,St x2] 22):=⟨_,rfl⟩
 have HP9:Hid (MkS w P x0 x1 x2 (.slice none 0 0) (.slice none 0 0) (.slice none 0 0) t9):=hid (by
  have hb:qL y1 t9:=by rw[ht9];exact((zM _ y1).alloc (zN _) _).alloc (by simp) _
  refine⟨B2.out.trans (hb.mono B2.out.size),by rw[hP];exact(Array.getElem?_eq_some_iff.1 P4.out).1,zac hb _ _ _ _ P4.out,?_,?_⟩
  ·rw[ht9,hP];exact(Below.heap_alloc _ _ _ (by simp)).trans (zG y1 _)
  ·rw[ht9,hP]
   have:=zG (y1.alloc (.cells #[.slice none 0 0,.slice none 0 0,.slice none 0 0] 86)) (.cells #[St x0,St x1,St x2] 22)
   rw[zH] at this
   exact this)
 have HT9:=hid ht9.symm;have HPe:=hid hP.symm
 clear ht9 hP B2 P4
 go_wp2_with fail
 have h9:=HT9.out
 rw[show(y1.alloc (.cells #[.slice none 0 0,.slice none 0 0,.slice none 0 0] 86)).alloc (.cells #[.string ⟨x0.toArray⟩,.string ⟨x1.toArray⟩,.string ⟨x2.toArray⟩] 22)=t9 from h9,HPe.out]
 clear h9 HT9 HPe k0 k1 k2
 refine wp_loop_rounds 4 ?_
 rw[rounds_succ]
 obtain⟨d0,d1,d2,z0,z1,z2⟩:=HP9.out.cells
 have HC:=hid (N0.out t9 HP9.out.bel)
 go_wp2_with fail
 clear d0 d1 d2 z0 z1 z2
 refine HC.out.mono ?_
 rintro e r0 ⟨u,rfl,hb,hu⟩
 obtain⟨a0,m0,j0,rfl⟩:=hu.any
 have HR0:=hid (HP9.out.next hb)
 have HU0:=hid hu
 clear hb hu HC HP9
 obtain⟨d0,d1,d2,z0,z1,z2⟩:=HR0.out.cells
 have fz:=HR0.out.soft 0
 obtain⟨t0,ht0⟩:∃t0,t0=r0.setCell ⟨P,0,none⟩ (.slice a0 m0 j0):=⟨_,rfl⟩
 have hp:=HR0.out.put0 (.slice a0 m0 j0)
 obtain⟨-,hne,hsz⟩:=HR0.out.ne 0 (.slice a0 m0 j0)
 have hno:=zbc HR0.out.h2 ⟨_,_,_,rfl⟩ ⟨_,_,_,rfl⟩ ⟨_,_,_,rfl⟩
 rw[<-ht0] at hp hne hsz
 have HP0:=hid hp
 have HU0:=hid (HU0.out.other hne hsz hno)
 have HT:=hid ht0.symm
 clear hp hne hsz hno ht0
 go_wp2_with fail
 try rw[HT.out]
 clear HT d0 d1 d2 z0 z1 z2 fz HR0
 rw[rounds_succ]
 obtain⟨d0,d1,d2,z0,z1,z2⟩:=HP0.out.cells
 have HC:=hid (N1.out t0 HP0.out.bel)
 go_wp2_with fail
 clear d0 d1 d2 z0 z1 z2
 refine HC.out.mono ?_
 rintro e r1 ⟨u,rfl,hb,hu⟩
 obtain⟨a1,m1,j1,rfl⟩:=hu.any
 have HR1:=hid (HP0.out.next hb)
 have HU1:=hid hu
 have HU0:=hid (HU0.out.below hb)
 clear hb hu HC HP0
 obtain⟨d0,d1,d2,z0,z1,z2⟩:=HR1.out.cells
 have fz:=HR1.out.soft 1
 obtain⟨t1,ht1⟩:∃t1,t1=r1.setCell ⟨P,1,none⟩ (.slice a1 m1 j1):=⟨_,rfl⟩
 have hp:=HR1.out.put1 (.slice a1 m1 j1)
 obtain⟨-,hne,hsz⟩:=HR1.out.ne 1 (.slice a1 m1 j1)
 have hno:=zbc HR1.out.h2 ⟨_,_,_,rfl⟩ ⟨_,_,_,rfl⟩ ⟨_,_,_,rfl⟩
 rw[<-ht1] at hp hne hsz
 have HP1:=hid hp
 have HU1:=hid (HU1.out.other hne hsz hno)
 have HU0:=hid (HU0.out.other hne hsz hno)
 have HT:=hid ht1.symm
 clear hp hne hsz hno ht1
 go_wp2_with fail
 try rw[HT.out]
 clear HT d0 d1 d2 z0 z1 z2 fz HR1
 rw[rounds_succ]
 obtain⟨d0,d1,d2,z0,z1,z2⟩:=HP1.out.cells
 have HC:=hid (N2.out t1 HP1.out.bel)
 go_wp2_with fail
 clear d0 d1 d2 z0 z1 z2
 refine HC.out.mono ?_
 rintro e r2 ⟨u,rfl,hb,hu⟩
 obtain⟨a2,m2,j2,rfl⟩:=hu.any
 have HR2:=hid (HP1.out.next hb)
 have HU2:=hid hu
 have HU0:=hid (HU0.out.below hb)
 have HU1:=hid (HU1.out.below hb)
 clear hb hu HC HP1
 obtain⟨d0,d1,d2,z0,z1,z2⟩:=HR2.out.cells
 have fz:=HR2.out.soft 2
 obtain⟨t2,ht2⟩:∃t2,t2=r2.setCell ⟨P,2,none⟩ (.slice a2 m2 j2):=⟨_,rfl⟩
 have hp:=HR2.out.put2 (.slice a2 m2 j2)
 obtain⟨-,hne,hsz⟩:=HR2.out.ne 2 (.slice a2 m2 j2)
 have hno:=zbc HR2.out.h2 ⟨_,_,_,rfl⟩ ⟨_,_,_,rfl⟩ ⟨_,_,_,rfl⟩
 rw[<-ht2] at hp hne hsz
 have HP2:=hid hp
 have HU2:=hid (HU2.out.other hne hsz hno)
 have HU0:=hid (HU0.out.other hne hsz hno)
 have HU1:=hid (HU1.out.other hne hsz hno)
 have HT:=hid ht2.symm
 clear hp hne hsz hno ht2
 go_wp2_with fail
 try rw[HT.out]
 clear HT d0 d1 d2 z0 z1 z2 fz HR2
 rw[rounds_succ]
 obtain⟨d0,d1,d2,z0,z1,z2⟩:=HP2.out.cells
 have hm:=HP2.out.h1
 have g0:t2.cell? ⟨w.heap.size+1,0,none⟩=some (.slice none 0 0):=by rw[zJ hm];rfl
 have g1:t2.cell? ⟨w.heap.size+1,1,none⟩=some (.slice none 0 0):=by rw[zJ hm];rfl
 have g2:t2.cell? ⟨w.heap.size+1,2,none⟩=some (.slice none 0 0):=by rw[zJ hm];rfl
 have f0:=Go.Joins.unfrozen_of_block hm 0
 have f1:=Go.Joins.unfrozen_of_block hm 1
 have f2:=Go.Joins.unfrozen_of_block hm 2
 obtain⟨t3,ht3⟩:∃t3,t3=((t2.setCell ⟨w.heap.size+1,0,none⟩ (.slice a0 m0 j0)).setCell ⟨w.heap.size+1,1,none⟩ (.slice a1 m1 j1)).setCell ⟨w.heap.size+1,2,none⟩ (.slice a2 m2 j2):=⟨_,rfl⟩
 have hno:=zbc hm ⟨_,_,_,rfl⟩ ⟨_,_,_,rfl⟩ ⟨_,_,_,rfl⟩
 have hne:∀b,b≠w.heap.size+1->t3.heap[b]? =t2.heap[b]? :=λb hb=>by
  rw[ht3,yE _ _ _ _ (by exact hb),yE _ _ _ _ (by exact hb),yE _ _ _ _ (by exact hb)]
 have hsz:t2.heap.size<=t3.heap.size:=by rw[ht3];simp[World.setCell]
 have hB3:qL w t3:=by
  rw[ht3]
  exact((HP2.out.bel.setCell (p:=⟨w.heap.size+1,0,none⟩) (by show _<=w.heap.size+1;omega) _).setCell (p:=⟨w.heap.size+1,1,none⟩) (by show _<=w.heap.size+1;omega) _).setCell (p:=⟨w.heap.size+1,2,none⟩) (by show _<=w.heap.size+1;omega) _
 have h3:=zK (i:=2) (zK (i:=1) (zK (i:=0) hm (.slice a0 m0 j0)) (.slice a1 m1 j1)) (.slice a2 m2 j2)
 rw[<-ht3] at h3
 have HF:=hid (⟨hB3,HU0.out.other hne hsz hno,HU1.out.other hne hsz hno,HU2.out.other hne hsz hno,h3⟩:qL w t3/\SdL (.slice a0 m0 j0) L0 t3/\SdL (.slice a1 m1 j1) L1 t3/\SdL (.slice a2 m2 j2) L2 t3/\_)
 have HT:=hid ht3.symm
 clear hno hne hsz hB3 ht3 hm HU0 HU1 HU2 HP2 h3
 go_wp2_with fail
 try rw[HT.out]
 have h3:=HF.out.2.2.2.2
 clear HT d0 d1 d2 z0 z1 z2 g0 g1 g2 f0 f1 f2
 have g0:t3.cell? ⟨w.heap.size+1,0,none⟩=some (.slice a0 m0 j0):=by rw[zJ h3];rfl
 have g1:t3.cell? ⟨w.heap.size+1,1,none⟩=some (.slice a1 m1 j1):=by rw[zJ h3];rfl
 have g2:t3.cell? ⟨w.heap.size+1,2,none⟩=some (.slice a2 m2 j2):=by rw[zJ h3];rfl
 clear h3
 exact bodyPost_ret (v:=.tuple #[.agg #[.slice a0 m0 j0,.slice a1 m1 j1,.slice a2 m2 j2],.int .i64 0]) (by simp[results,Tryz.results10,go_sem,g0,g1,g2]) rfl ⟨_,_,_,rfl,HF.out.1,HF.out.2.1,HF.out.2.2.1,HF.out.2.2.2.1⟩
structure SdeS (w:zA) (a b c:List UInt8) (d s0 s1 s2:Value) (M:List (Rat×Nat)) (r:Value) (f:Nat->Bool) (W:zA):Prop where
 bel:qL w W
 h0:W.heap[w.heap.size]? =some (.cells #[St a,St b,St c,d] 45 (0,0))
 h1:W.heap[w.heap.size+1]? =some (.cells #[s0,s1,s2] 39 (0,0))
 sr:f 9=true->SdL r M W
section
variable {w W W':zA} {a b c:List UInt8} {d s0 s1 s2 r:Value} {M:List (Rat×Nat)} {f g:Nat->Bool}
theorem SdeS.congr (h:SdeS w a b c d s0 s1 s2 M r f W) (e:g 9=f 9):SdeS w a b c d s0 s1 s2 M r g W:=⟨h.bel,h.h0,h.h1,by rw[e];exact h.sr⟩
theorem SdeS.next (h:SdeS w a b c d s0 s1 s2 M r f W) (hb:qL W W'):SdeS w a b c d s0 s1 s2 M r f W':=
 have hc:=zac hb
 ⟨h.bel.trans (hb.mono h.bel.size),hc _ _ _ _ h.h0,hc _ _ _ _ h.h1,λe=>(h.sr e).below hb⟩
theorem SdeS.res (h:SdeS w a b c d s0 s1 s2 M r f W) (hb:qL W W') {u:Value} (hu:SdL u M W'):SdeS w a b c d s0 s1 s2 M u g W':=
 have hn:=h.next hb
 ⟨hn.bel,hn.h0,hn.h1,λ_=>hu⟩
theorem SdeS.hcells (h:SdeS w a b c d s0 s1 s2 M r f W):W.cell? ⟨w.heap.size,0,none⟩=some (St a)/\W.cell? ⟨w.heap.size,1,none⟩=some (St b)/\W.cell? ⟨w.heap.size,2,none⟩=some (St c)/\W.cell? ⟨w.heap.size,3,none⟩=some d:=
 ⟨by rw[zJ h.h0];rfl,by rw[zJ h.h0];rfl,by rw[zJ h.h0];rfl,by rw[zJ h.h0];rfl⟩
theorem SdeS.mcells (h:SdeS w a b c d s0 s1 s2 M r f W):W.cell? ⟨w.heap.size+1,0,none⟩=some s0/\W.cell? ⟨w.heap.size+1,1,none⟩=some s1/\W.cell? ⟨w.heap.size+1,2,none⟩=some s2:=
 ⟨by rw[zJ h.h1];rfl,by rw[zJ h.h1];rfl,by rw[zJ h.h1];rfl⟩
end
theorem zjj (a b c:List UInt8) (qd q0 q1 q2:Option Addr) (nd kd n0 n1 n2 k0 k1 k2:Nat) (M M2:List (Rat×Nat)) (sg:Int) (w:zA)
 (CK:Hid (∀W:zA,qL w W->∀B,W.heap[B]? =some (.cells #[St a,St b,St c,.slice qd nd kd] 45 (0,0))->qJ 39 #[.slice (some ⟨B,0,none⟩) 1 1] W (.int .i64 0)))
 (K0:Hid (∀W:zA,qL w W->qJ 40 #[.slice q0 n0 k0] W (.int .i64 0)))
 (K1:Hid (∀W:zA,qL w W->qJ 40 #[.slice q1 n1 k1] W (.int .i64 0)))
 (K2:Hid (∀W:zA,qL w W->qJ 40 #[.slice q2 n2 k2] W (.int .i64 0)))
 (SL:Hid (∀W:zA,qL w W->zC zF 41 #[.agg #[.slice q0 n0 k0,.slice q1 n1 k1,.slice q2 n2 k2],.agg #[St a,St b,St c]] W λe w'=>∃r,e=.returned (.tuple #[r,.int .i64 0])/\zB W.heap.size W w'/\SdL r M w'))
 (SB:Hid (∀(W:zA) (r:Value),qL w W->SdL r M W->zC zF 43 #[r,.slice qd nd kd] W λe w'=>∃u,e=.returned (.tuple #[u,.int .i64 0])/\zB W.heap.size W w'/\SdL u M2 w'))
 (SG:Hid (∀(W:zA) (u:Value),qL w W->SdL u M2 W->qJ 44 #[u] W (.tuple #[.int .i64 sg,.int .i64 0]))):
 qJ 12 #[.agg #[St a,St b,St c,.slice qd nd kd],.agg #[.slice q0 n0 k0,.slice q1 n1 k1,.slice q2 n2 k2]] w (.tuple #[.int .i64 sg,.int .i64 0]):=by
 obtain⟨v1,hv⟩:∃v1,v1=(w.alloc (.cells #[St a,St b,St c,.slice qd nd kd] 45)).alloc (.cells #[.slice q0 n0 k0,.slice q1 n1 k1,.slice q2 n2 k2] 39):=⟨_,rfl⟩
 have b1:qL w v1:=by rw[hv];exact((zM _ w).alloc (zN _) _).alloc (by simp) _
 have A1:v1.heap[w.heap.size]? =some (.cells #[St a,St b,St c,.slice qd nd kd] 45 (0,0)):=by rw[hv];exact(Below.heap_alloc _ _ _ (by simp)).trans (zG w _)
 have A2:v1.heap[w.heap.size+1]? =some (.cells #[.slice q0 n0 k0,.slice q1 n1 k1,.slice q2 n2 k2] 39 (0,0)):=by
  rw[hv]
  have:=zG (w.alloc (.cells #[St a,St b,St c,.slice qd nd kd] 45)) (.cells #[.slice q0 n0 k0,.slice q1 n1 k1,.slice q2 n2 k2] 39)
  rw[zH] at this
  exact this
 have hT1:SdeS w a b c (.slice qd nd kd) (.slice q0 n0 k0) (.slice q1 n1 k1) (.slice q2 n2 k2) M (.slice none 0 0) (λ_=>false) v1:=⟨b1,A1,A2,λk=>(by cases k)⟩
 obtain⟨z0,z1,z2,z3⟩:=hT1.hcells
 have hsz:v1.heap.size=w.heap.size+1+1:=by rw[hv];simp
 obtain⟨v2,hv2⟩:∃v2,v2=v1.alloc (.cells #[St a,St b,St c,.slice qd nd kd] 45):=⟨_,rfl⟩
 have b2:qL v1 v2:=by rw[hv2];exact(zM _ v1).alloc (zN _) _
 have A3:v2.heap[v1.heap.size]? =some (.cells #[St a,St b,St c,.slice qd nd kd] 45 (0,0)):=by rw[hv2];exact zG v1 _
 rw[hsz] at A3
 have HT2:=hid (hT1.next b2)
 have HC:=hid (CK.out v2 HT2.out.bel _ A3)
 have HV:=hid hv.symm;have HV2:=hid hv2.symm
 clear hv hv2 b1 b2 A1 A2 A3 hT1 hsz CK
 go_enter Tryz.func12,Tryz.ntmps12
 go_wp2_with fail
 have h9:=HV.out
 rw[show(w.alloc (.cells #[.string ⟨a.toArray⟩,.string ⟨b.toArray⟩,.string ⟨c.toArray⟩,.slice qd nd kd] 45)).alloc (.cells #[.slice q0 n0 k0,.slice q1 n1 k1,.slice q2 n2 k2] 39)=v1 from h9]
 clear h9 HV
 go_wp2_with fail
 have h9:=HV2.out
 rw[show v1.alloc (.cells #[.string ⟨a.toArray⟩,.string ⟨b.toArray⟩,.string ⟨c.toArray⟩,.slice qd nd kd] 45)=v2 from h9]
 clear h9 HV2 z0 z1 z2 z3
 refine HC.out.mono ?_
 rintro e y1 ⟨rfl,hb⟩
 have HT3:=hid (HT2.out.next hb)
 clear hb HC HT2
 obtain⟨z0,z1,z2⟩:=HT3.out.mcells
 obtain⟨Q,hQ⟩:∃Q,Q=y1.heap.size:=⟨_,rfl⟩
 obtain⟨y2,hy2⟩:∃y2,y2=y1.alloc (.cells #[.slice q0 n0 k0,.slice q1 n1 k1,.slice q2 n2 k2] 37):=⟨_,rfl⟩
 have ay:qL y1 y2:=by rw[hy2];exact(zM _ y1).alloc (zN _) _
 have QB:y2.heap[Q]? =some (.cells #[.slice q0 n0 k0,.slice q1 n1 k1,.slice q2 n2 k2] 37 (0,0)):=by rw[hy2,hQ];exact zG y1 _
 have HT4:=hid (HT3.out.next ay);have HQ:=hid QB
 have HY:=hid hy2.symm;have HQe:=hid hQ.symm
 clear hy2 ay QB HT3 hQ
 go_wp2_with fail
 have h9:=HY.out
 rw[h9,HQe.out]
 clear h9 HY HQe z0 z1 z2
 refine wp_loop_rounds 4 ?_
 rw[rounds_succ]
 have x0:y2.cell? ⟨Q,0,none⟩=some (.slice q0 n0 k0):=by rw[zJ HQ.out];rfl
 have HK:=hid (K0.out y2 HT4.out.bel)
 go_wp2_with fail
 clear x0
 refine HK.out.mono ?_
 rintro e r0 ⟨rfl,hb⟩
 have HR0:=hid (HT4.out.next hb);have HQ0:=hid (zac hb _ _ _ _ HQ.out)
 clear hb HK HT4 HQ
 go_wp2_with fail
 rw[rounds_succ]
 have x1:r0.cell? ⟨Q,1,none⟩=some (.slice q1 n1 k1):=by rw[zJ HQ0.out];rfl
 have HK:=hid (K1.out r0 HR0.out.bel)
 go_wp2_with fail
 clear x1
 refine HK.out.mono ?_
 rintro e r1 ⟨rfl,hb⟩
 have HR1:=hid (HR0.out.next hb);have HQ1:=hid (zac hb _ _ _ _ HQ0.out)
 clear hb HK HR0 HQ0
 go_wp2_with fail
 rw[rounds_succ]
 have x2:r1.cell? ⟨Q,2,none⟩=some (.slice q2 n2 k2):=by rw[zJ HQ1.out];rfl
 have HK:=hid (K2.out r1 HR1.out.bel)
 go_wp2_with fail
 clear x2
 refine HK.out.mono ?_
 rintro e r2 ⟨rfl,hb⟩
 have HR2:=hid (HR1.out.next hb);have HQ2:=hid (zac hb _ _ _ _ HQ1.out)
 clear hb HK HR1 HQ1
 go_wp2_with fail
 rw[rounds_succ]
 go_wp2_with fail
 clear HQ2 K0 K1 K2
 refine zc4 (λ(g3:Option Addr×Nat×Nat) i=>([.pointer (some ⟨w.heap.size+1,0,none⟩),.slice q0 n0 k0,.pointer (some ⟨w.heap.size+1,1,none⟩),.slice q1 n1 k1,.pointer (some ⟨w.heap.size+1,2,none⟩),.slice q2 n2 k2,.agg #[.slice q0 n0 k0,.slice q1 n1 k1,.slice q2 n2 k2],.agg #[St a,St b,St c,.slice qd nd kd],.agg #[St a,St b,St c],.tuple #[.slice g3.1 g3.2.1 g3.2.2,.int .i64 0],.tuple #[.slice g3.1 g3.2.1 g3.2.2,.int .i64 0],.slice g3.1 g3.2.1 g3.2.2,.int .i64 0,.slice g3.1 g3.2.1 g3.2.2,.int .i64 0]:List Value).getD i undef) (λg3=>SdeS w a b c (.slice qd nd kd) (.slice q0 n0 k0) (.slice q1 n1 k1) (.slice q2 n2 k2) M (.slice g3.1 g3.2.1 g3.2.2)) (by kernel_rfl) (by kernel_rfl) (none,0,0) (HR2.out.next (zM _ _).drew) λg3=>?_
 refine qB (.pointer (some ⟨w.heap.size+1,0,none⟩)) (λf W' h=>h.congr rfl) ?_
 simp only[zzQ]
 refine qB (.slice q0 n0 k0) (λf W' h=>h.congr rfl) ?_ (hy:=λf W' hf h=>by obtain⟨q0',q1',q2'⟩:=h.mcells;go_simp)
 simp only[zzQ]
 refine qB (.pointer (some ⟨w.heap.size+1,1,none⟩)) (λf W' h=>h.congr rfl) ?_
 simp only[zzQ]
 refine qB (.slice q1 n1 k1) (λf W' h=>h.congr rfl) ?_ (hy:=λf W' hf h=>by obtain⟨q0',q1',q2'⟩:=h.mcells;go_simp)
 simp only[zzQ]
 refine qB (.pointer (some ⟨w.heap.size+1,2,none⟩)) (λf W' h=>h.congr rfl) ?_
 simp only[zzQ]
 refine qB (.slice q2 n2 k2) (λf W' h=>h.congr rfl) ?_ (hy:=λf W' hf h=>by obtain⟨q0',q1',q2'⟩:=h.mcells;go_simp)
 simp only[zzQ]
 refine qB (.agg #[.slice q0 n0 k0,.slice q1 n1 k1,.slice q2 n2 k2]) (λf W' h=>h.congr rfl) ?_
 simp only[zzQ]
 refine qB (.agg #[St a,St b,St c,.slice qd nd kd]) (λf W' h=>h.congr rfl) ?_ (hy:=λf W' hf h=>by obtain⟨q0',q1',q2',q3'⟩:=h.hcells;go_simp)
 simp only[zzQ]
 refine zbv (.agg #[St a,St b,St c]) (by rfl) (by rfl) (λf W' hf h C' hC'=>by
  go_simp
  refine(zcl a b c qd nd kd _).mono ?_
  rintro e w' ⟨rfl,hb⟩
  exact⟨_,rfl,hC' _ ((h.next hb).congr rfl)⟩) ?_
 try simp only[zzQ]
 refine zdc (.tuple #[.slice g3.1 g3.2.1 g3.2.2,.int .i64 0]) (by rfl) (by rfl) (λf W' hf h C' hC'=>by
  have h9:=hf.self
  have h10:=hf.no (j:=10) hf.self (by kernel_rfl)
  have h11:=hf.no (j:=11) h10 (by kernel_rfl)
  have h13:=hf.no (j:=13) h11 (by kernel_rfl)
  have hg:=SL.out W' h.bel
  go_simp
  refine hg.mono ?_
  rintro e w' ⟨u0,rfl,hb,hu⟩
  obtain⟨u1,u2,u3,rfl⟩:=hu.any
  have hj:∀j,f j=true->(([.pointer (some ⟨w.heap.size+1,0,none⟩),.slice q0 n0 k0,.pointer (some ⟨w.heap.size+1,1,none⟩),.slice q1 n1 k1,.pointer (some ⟨w.heap.size+1,2,none⟩),.slice q2 n2 k2,.agg #[.slice q0 n0 k0,.slice q1 n1 k1,.slice q2 n2 k2],.agg #[St a,St b,St c,.slice qd nd kd],.agg #[St a,St b,St c],.tuple #[.slice u1 u2 u3,.int .i64 0],.tuple #[.slice u1 u2 u3,.int .i64 0],.slice u1 u2 u3,.int .i64 0,.slice u1 u2 u3,.int .i64 0]:List Value).getD j undef)=(([.pointer (some ⟨w.heap.size+1,0,none⟩),.slice q0 n0 k0,.pointer (some ⟨w.heap.size+1,1,none⟩),.slice q1 n1 k1,.pointer (some ⟨w.heap.size+1,2,none⟩),.slice q2 n2 k2,.agg #[.slice q0 n0 k0,.slice q1 n1 k1,.slice q2 n2 k2],.agg #[St a,St b,St c,.slice qd nd kd],.agg #[St a,St b,St c],.tuple #[.slice g3.1 g3.2.1 g3.2.2,.int .i64 0],.tuple #[.slice g3.1 g3.2.1 g3.2.2,.int .i64 0],.slice g3.1 g3.2.1 g3.2.2,.int .i64 0,.slice g3.1 g3.2.1 g3.2.2,.int .i64 0]:List Value).getD j undef):=by
   intro j hj
   match j,hj with
   |0,_|1,_|2,_|3,_|4,_|5,_|6,_|7,_|8,_|12,_|14,_=>rfl
   |9,hj=>rw[h9] at hj;cases hj
   |10,hj=>rw[h10] at hj;cases hj
   |11,hj=>rw[h11] at hj;cases hj
   |13,hj=>rw[h13] at hj;cases hj
   |_+15,_=>rfl
  exact⟨_,rfl,hC' (u1,u2,u3) _ hj (h.res hb hu)⟩) ?_
 try simp only[zzQ]
 refine qB (.tuple #[.slice g3.1 g3.2.1 g3.2.2,.int .i64 0]) (λf W' h=>h.congr rfl) ?_
 simp only[zzQ]
 refine qB (.slice g3.1 g3.2.1 g3.2.2) (λf W' h=>h.congr rfl) ?_
 simp only[zzQ]
 refine qB (.int .i64 0) (λf W' h=>h.congr rfl) ?_
 simp only[zzQ]
 refine qB (.slice g3.1 g3.2.1 g3.2.2) (λf W' h=>h.congr rfl) ?_
 simp only[zzQ]
 refine qB (.int .i64 0) (λf W' h=>h.congr rfl) ?_
 simp only[zzQ]
 refine ze1 λf X hf h=>?_
 obtain⟨g1,g2,g4⟩:=g3
 have hr:=h.sr (hf 9 (by decide))
 have HX:=hid h
 have HS:=hid (SB.out X _ h.bel hr)
 obtain⟨z0,z1,z2,z3⟩:=h.hcells
 clear h hf hr HR2 SL SB
 go_wp2_with fail
 refine HS.out.mono ?_
 rintro e t1 ⟨u,rfl,hb,hu⟩
 obtain⟨u1,u2,u3,rfl⟩:=hu.any
 have hb2:=HX.out.bel.trans (hb.mono HX.out.bel.size)
 have HB:=hid hb2
 have HG:=hid (SG.out t1 _ hb2 hu)
 clear hb hb2 hu HS HX SG z0 z1 z2 z3
 go_wp2_with fail
 refine HG.out.mono ?_
 rintro e t2 ⟨rfl,hb⟩
 have HB2:=qT HB hb
 clear hb
 go_wp2_with fail
 go_ret2
 exact⟨rfl,HB2.out⟩
end
section
open Go.RowKit Lib Str Limb
theorem zeb (p:Option Addr) (n cap:Nat) (l:List Nat) (w:zA) (h:Sl w (.slice p n cap) (l.map I)) (hl:l.length<=3000):
 zC zF 141 #[.slice p n cap] w λe w'=>e=.returned (.slice p (zat l).length cap)/\w=w':=by
 rcases h.cases with⟨h0,p',cap',e⟩|⟨h0,b,off,cap',e,hcap,hb,hc⟩
 ·have:l=[]:=by simpa using h0
  subst this
  simp only[Value.slice.injEq] at e
  obtain⟨rfl,rfl,rfl⟩:=e
  go_enter Tryz.func141,Tryz.ntmps141
  go_wp2
  go_loop [3] (λs=>s=.int .i64 0) (λ_=>0)
  case atStart=>rfl
  case round=>
   subst hrel
   go_wp2
   go_ret
   exact⟨rfl,rfl⟩
 ·rw[zV] at hcap e
  simp only[Value.slice.injEq] at e
  obtain⟨rfl,rfl,rfl⟩:=e
  have HC:=hid hc;clear hc h
  go_enter Tryz.func141,Tryz.ntmps141
  go_wp2
  go_loop [3] (λs=>∃k:Nat,k<=l.length/\s=.int .i64 k/\Hid (zat (l.take k)=zat l)) (λs=>(zL s).toNat)
  case atStart=>exact⟨l.length,zN _,rfl,by show zat (l.take l.length)=_;rw[List.take_length]⟩
  case round=>
   obtain⟨k,hk,rfl,ht⟩:=hrel
   rcases Nat.eq_zero_or_pos k with rfl|hp
   ·have e:(zat l).length=0:=by rw[<-ht.out];simp[zou]
    have E:=hid e;clear e
    go_wp2
    go_ret
    exact⟨by rw[E.out];rfl,rfl⟩
   ·obtain⟨m,rfl⟩:∃m,k=m+1:=⟨k-1,by omega⟩
    have hm:m<l.length:=by omega
    have hx:l[m]? =some l[m]:=by simp[hm]
    have hcell:=HC.out m (I l[m]) (by simp[hm])
    have hsn:zat (l.take (m+1))=zat (l.take m++[l[m]]):=by rw[List.take_succ_eq_append_getElem hm]
    by_cases hz:l[m]=0
    ·rw[hz] at hcell hsn
     have HS:Hid (zat (l.take m)=zat l):=by rw[<-ht.out,hsn,zew];rfl
     clear hsn hx hz ht
     go_wp2
     go_round
     case rel=>exact⟨m,by omega,by go_num,HS⟩
     case measure=>simp[zL]
    ·have HS:Hid ((zat l).length=m+1):=by
      rw[<-ht.out,hsn,zhs _ hz];show(l.take m++[l[m]]).length=m+1
      simp;omega
     have hz':(((l[m]:Nat):Int)==0)=false:=by rw[beq_eq_false_iff_ne];omega
     clear hsn hx ht
     go_wp2
     go_ret
     exact⟨by rw[HS.out];rfl,rfl⟩
theorem zgz (v:Value) (l:List Nat) (i:Nat) (w:zA) (h:Sl w v (l.map I)) (hl:l.length<=3000):
 zC zF 143 #[v,I i] w λe w'=>e=.returned (I (l[i]?.getD 0))/\w=w':=by
 by_cases hi:i<l.length
 ·rcases h.cases with⟨h0,p,cap,rfl⟩|⟨h0,b,off,cap,rfl,hcap,hb,hc⟩
  ·have:l=[]:=by simpa using h0
   subst this;simp at hi
  ·have hcell:=hc i (I (l[i]?.getD 0)) (by simp[hi])
   clear hc h
   rw[zV]
   generalize l[i]?.getD 0=x at*
   go_enter Tryz.func143,Tryz.ntmps143
   go_wp2
   go_ret
   exact⟨rfl,rfl⟩
 ·have:l[i]?.getD 0=0:=by rw[List.getElem?_eq_none (by omega)];rfl
  rw[this]
  obtain⟨p,cap,rfl,hcap,_⟩:=h
  rw[zV]
  go_enter Tryz.func143,Tryz.ntmps143
  go_wp2
  go_ret
  exact⟨rfl,rfl⟩
def B6:Nat:=1000000
theorem zh4 {w:zA} {base k:Nat} {p:Option Addr} {n c:Nat} {o:List Nat} (h:w.ownsRow base 3 1 (.slice p n c) k (o.map I)) (hk:o.length=k):
 w.ownsRow base 3 1 (.slice p (zat o).length c) (zat o).length ((zat o).map I):=zeq (v:=.slice p n c) h hk
theorem zg0 {w:zA} {base:Nat} {t:TypeId} {s:Nat} {v:Value} {n:Nat} {xs:List Value} (h:w.ownsRow base t s v n xs):∃p m c,v=.slice p m c:=by
 rcases h.2 with⟨e,_⟩|⟨g,cp,cur,e,_⟩<;>exact⟨_,_,_,e⟩
end
section
theorem zzD {B:Nat} {a w:zA} (h:RowKit.Below B a w) (n:Nat):RowKit.Below B a (w.drewN n):=⟨h.os,h.tape,h.output,h.size,h.block⟩
open Go.RowKit Lib Str Limb
def zua (w:zA) (l:List Nat) (e:Ending) (w':zA):Prop:=
 ∃g c,e=.returned (.slice (some ⟨g,0,none⟩) l.length c)/\w'.ownsRow w.heap.size 3 1 (.slice (some ⟨g,0,none⟩) l.length c) l.length (l.map I)/\zB w.heap.size w w'
theorem zrr {w:zA} {base:Nat} {t:TypeId} {s:Nat} {v:Value} {n:Nat} {xs:List Value} (h:w.ownsRow base t s v n xs) (hne:v≠ .slice none 0 0):∃g c,v=.slice (some ⟨g,0,none⟩) n c:=by
 rcases h.2 with⟨e,_⟩|⟨g,cp,cur,e,_⟩
 ·exact absurd e hne
 ·exact⟨_,_,e⟩
theorem zix (va vb:Value) (a b:List Nat) (w:zA) (ha:Sl w va (a.map I)) (hb:Sl w vb (b.map I)) (sa:zal B6 a) (sb:zal B6 b) (la:a.length<=1000) (hba:b.length<=a.length) (hle:valL B6 b<=valL B6 a):
 zC zF 144 #[va,vb] w (zua w (zaa B6 (valL B6 a-valL B6 b))):=by
 rw[<-znb (B:=B6) (by decide) sa sb hle a.length (zN _) hba]
 obtain⟨i0,hi,hz0,hz1,hz2⟩:=info_parts zdv
 have ha':=ha;have hb':=hb
 obtain⟨pa,ca,rfl,hca,hcella⟩:=ha
 obtain⟨pb,cb,rfl,hcb,hcellb⟩:=hb
 have HA:=hid ha';clear ha' hcella hca
 have HB:=hid hb';clear hb' hcellb hcb hle
 have SA:=hid sa;clear sa
 have SB:=hid sb;clear sb
 simp only[zV] at*
 go_enter Tryz.func144,Tryz.ntmps144
 go_wp2
 go_loopw [5,6,7] (λv c i wr=>∃k:Nat,k<=a.length/\i=.int .i64 k/\c=I (zaq (za1 B6) a b k).2/\wr.ownsRow w.heap.size 3 1 v k ((zaq (za1 B6) a b k).1.map I)/\zB w.heap.size w wr/\v≠ .slice none 0 0)
  (λ_ _ i _=>a.length-(zL i).toNat)
 case atStart=>exact⟨0,zR _,rfl,rfl,World.ownsRow_made w #[] 0 (zN _) (by unfold maxLen;omega) rfl,(zM _ w).alloc (zN _) _,λh=>by cases h⟩
 case round=>
  obtain⟨k,hk,rfl,rfl,hown,hB,hne⟩:=hrel
  have HNE:=hid hne;clear hne
  obtain⟨p1,p2,p3⟩:=zlo (B:=B6) (by decide) SA.out SB.out k
  by_cases hlt:k<a.length
  ·obtain⟨ba,offa,rfl,hba',hcapa,hcx⟩:=(HA.out.below hB).at hlt
   have hx:=zaj SA.out (by decide) k
   have hy:=zaj SB.out (by decide) k
   have hst:zaq (za1 B6) a b (k+1)=((zaq (za1 B6) a b k).1++[(za1 B6 (a[k]?.getD 0) (b[k]?.getD 0) (zaq (za1 B6) a b k).2).1],(za1 B6 (a[k]?.getD 0) (b[k]?.getD 0) (zaq (za1 B6) a b k).2).2):=rfl
   have HST:=hid hst;clear hst p1 p3
   generalize (zaq (za1 B6) a b k).1=o at*
   generalize (zaq (za1 B6) a b k).2=c at*
   have hx':a[k]?.getD 0<1000000:=hx
   have hy':b[k]?.getD 0<1000000:=hy
   clear hx hy
   have HOWN:=hid hown;clear hown
   have LB:=hid λ(W:zA) (h:qL w W)=>zgz _ b k W (HB.out.below h) (by omega)
   generalize a[k]?.getD 0=x at*
   generalize b[k]?.getD 0=y at*
   have e1:IntKind.i64.wrap ((x:Int)-y)=(x:Int)-y:=zI _ (by omega)
   have e2:IntKind.i64.wrap ((x:Int)-y-c)=(x:Int)-y-c:=zI _ (by omega)
   have fin:∀(v':Value) (w1:zA) (z:Int) (W:zA),qL w W->W.ownsRow w.heap.size 3 1 v' (k+1) (o.map I++[.int .i64 z])->True:=λ_ _ _ _ _ _=>trivial
   clear fin
   by_cases hge:y+c<=x
   ·have hE:Hid (Value.int .i64 ((x:Int)-y-c)=I (za1 B6 x y c).1/\(za1 B6 x y c).2=0):=hid (by
     have e:za1 B6 x y c=(x-y-c,0):=by unfold za1;rw[if_pos hge]
     rw[e];exact⟨by show Value.int .i64 _=Value.int .i64 _;congr 1;omega,rfl⟩)
    have hn:¬(x:Int)-y-c<0:=by omega
    go_wp2
    go_quiet ((go_at_call 143;exact Calls.quiet_of_same (zi5 (LB.out _ (hB.trans (zzD (zM _ _) _))))))
    clear e1 e2
    have hB2:qL w (wr.drewN nq):=zzD hB _
    have HOWN2:=hid (show(wr.drewN nq).ownsRow w.heap.size 3 1 _ k (o.map I) from HOWN.out)
    clear HOWN hcx hB hba'
    go_wp2_with (at_builtin;refine wpList_append_own _ rfl _ _ 123 rfl w.heap.size 3 i0 (.int .i64 0) 1 8 Tryz.underlying123 hi hz0 hz1 hz2 rfl (by decide) _ _ _ rfl (HOWN2.out.alloc _) ⟨wr.heap.size,0,none⟩ 1 1 [.int .i64 ((x:Int)-y-c)] rfl rfl (zep _ _ _) (zfn _) (by unfold maxLen;omega) (by omega) (by have:=hB2.size;simp at this⊢;omega) ?_)
    intro v' w1 hown' hgrow hnn
    have HNN:=hid (show v'≠ .slice none 0 0 from hnn);clear hnn
    have hB1:qL w w1:=(hB2.alloc hB2.size _).grown hgrow (by have:=hB2.size;simp at this⊢;omega) (λq e=>(HOWN2.out.lt q e).1)
    rw[hE.out.1] at hown'
    clear hgrow hB2 HOWN2
    go_wp2
    go_roundw
    case rel=>exact⟨k+1,by omega,by go_num,by rw[HST.out,hE.out.2];rfl,by rw[HST.out];simpa using hown',hB1,HNN.out⟩
    case measure=>simp[zL];omega
   ·have hE:Hid (Value.int .i64 ((x:Int)-y-c+1000000)=I (za1 B6 x y c).1/\(za1 B6 x y c).2=1):=hid (by
     have e:za1 B6 x y c=(x+B6-y-c,1):=by unfold za1;rw[if_neg hge]
     rw[e];exact⟨by show Value.int .i64 _=Value.int .i64 _;congr 1;unfold B6;omega,rfl⟩)
    have hn:(x:Int)-y-c<0:=by omega
    have e3:IntKind.i64.wrap ((x:Int)-y-c+1000000)=(x:Int)-y-c+1000000:=zI _ (by omega)
    go_wp2
    go_quiet ((go_at_call 143;exact Calls.quiet_of_same (zi5 (LB.out _ (hB.trans (zzD (zM _ _) _))))))
    clear e1 e2
    have hB2:qL w (wr.drewN nq):=zzD hB _
    have HOWN2:=hid (show(wr.drewN nq).ownsRow w.heap.size 3 1 _ k (o.map I) from HOWN.out)
    clear HOWN hcx hB hba'
    go_wp2_with (at_builtin;refine wpList_append_own _ rfl _ _ 123 rfl w.heap.size 3 i0 (.int .i64 0) 1 8 Tryz.underlying123 hi hz0 hz1 hz2 rfl (by decide) _ _ _ rfl (HOWN2.out.alloc _) ⟨wr.heap.size,0,none⟩ 1 1 [.int .i64 ((x:Int)-y-c+1000000)] rfl rfl (zep _ _ _) (zfn _) (by unfold maxLen;omega) (by omega) (by have:=hB2.size;simp at this⊢;omega) ?_)
    intro v' w1 hown' hgrow hnn
    have HNN:=hid (show v'≠ .slice none 0 0 from hnn);clear hnn
    have hB1:qL w w1:=(hB2.alloc hB2.size _).grown hgrow (by have:=hB2.size;simp at this⊢;omega) (λq e=>(HOWN2.out.lt q e).1)
    rw[hE.out.1] at hown'
    clear hgrow hB2 HOWN2 e3
    go_wp2
    go_roundw
    case rel=>exact⟨k+1,by omega,by go_num,by rw[HST.out,hE.out.2];rfl,by rw[HST.out];simpa using hown',hB1,HNN.out⟩
    case measure=>simp[zL];omega
  ·obtain rfl:k=a.length:=by omega
   have hl:(zaq (za1 B6) a b a.length).1.length=a.length:=zdk _ _ _ _
   obtain⟨o,ho⟩:∃o,o=(zaq (za1 B6) a b a.length).1:=⟨_,rfl⟩
   rw[<-ho] at hown hl
   have HO:=hid ho
   have HL:=hid hl;clear hl p1 p2 p3
   obtain⟨vg,vc,rfl⟩:=zrr hown HNE.out
   have HOWN:=hid hown;clear hown ho
   go_wp2_with fail
   refine(zeb _ _ _ o wr (Sl.of_own HOWN.out) (by rw[HL.out];omega)).mono ?_
   rintro e w1 ⟨rfl,rfl⟩
   go_wp2_with fail
   go_ret
   rw[<-HO.out]
   exact⟨_,_,rfl,zh4 HOWN.out HL.out,hB⟩
theorem zxc (m n:Nat) (hl:(zaa B6 m).length=(zaa B6 n).length) (k:Nat) (hk:k<(zaa B6 m).length) (h:∀i,k<i->i<(zaa B6 m).length->(zaa B6 m)[i]?.getD 0=(zaa B6 n)[i]?.getD 0):
 ((zaa B6 m)[k]?.getD 0<(zaa B6 n)[k]?.getD 0->m<n)/\((zaa B6 n)[k]?.getD 0<(zaa B6 m)[k]?.getD 0->n<m):=by
 have hB:2<=B6:=by decide
 have sa:=zak hB m
 have sb:=zak hB n
 have hd:=ztr hl k h
 constructor
 ·intro hlt
  have:=zem sa sb hl k hk hd hlt
  rwa [zam hB,zam hB] at this
 ·intro hgt
  have:=zem sb sa hl.symm k (by omega) hd.symm hgt
  rwa [zam hB,zam hB] at this
theorem z27 (m n:Nat) (hl:(zaa B6 m).length=(zaa B6 n).length) (h:∀i,i<(zaa B6 m).length->(zaa B6 m)[i]?.getD 0=(zaa B6 n)[i]?.getD 0):m=n:=by
 have hB:2<=B6:=by decide
 rw[<-zam hB m,zoa hl h,zam hB]
def ordN (m n:Nat):Int:=if m<n then-1 else if m=n then 0 else 1
theorem zlc (va vb:Value) (m n:Nat) (w:zA) (ha:Sl w va ((zaa B6 m).map I)) (hb:Sl w vb ((zaa B6 n).map I)) (la:(zaa B6 m).length<=1000) (_:(zaa B6 n).length<=1000):
 qJ 146 #[va,vb] w (.int .i64 (ordN m n)):=by
 have ha':=ha;have hb':=hb
 obtain⟨pa,ca,rfl,hca,hcella⟩:=ha
 obtain⟨pb,cb,rfl,hcb,hcellb⟩:=hb
 have HA:=hid ha';clear ha' hcella hca
 have HB:=hid hb';clear hb' hcellb hcb
 simp only[zV] at*
 have hlt':=zc2 (B:=B6) (by decide) (m:=m) (n:=n)
 have hgt':=zc2 (B:=B6) (by decide) (m:=n) (n:=m)
 have SA:=hid (zak (B:=B6) (by decide) m)
 have SB:=hid (zak (B:=B6) (by decide) n)
 by_cases hl:(zaa B6 m).length=(zaa B6 n).length
 ·have CP:=hid (zxc m n hl)
  have CE:=hid (z27 m n hl)
  rw[<-hl]
  clear hlt' hgt'
  have HL:=hid hl;clear hl
  generalize zaa B6 m=a at*
  generalize zaa B6 n=b at*
  go_enter Tryz.func146,Tryz.ntmps146
  go_wp2
  go_loopw [5] (λi wr=>∃k:Nat,k<=a.length/\i=.int .i64 ((k:Int)-1)/\(∀j,k<=j->j<a.length->a[j]?.getD 0=b[j]?.getD 0)/\zB w.heap.size w wr)
   (λi _=>(zL i+1).toNat)
  case atStart=>exact⟨a.length,zN _,rfl,λj h1 h2=>by omega,zM _ _⟩
  case round=>
   obtain⟨k,hk,rfl,hsame,hB⟩:=hrel
   rcases Nat.eq_zero_or_pos k with rfl|hp
   ·obtain rfl:m=n:=CE.out λi hi=>hsame i (zR _) hi
    clear hsame
    go_wp2
    go_ret
    exact⟨by unfold ordN;simp,hB⟩
   ·obtain⟨i,rfl⟩:∃i,k=i+1:=⟨k-1,by omega⟩
    have hi1:((i+1:Nat):Int)-1=(i:Int):=by omega
    rw[hi1]
    have hia:i<a.length:=by omega
    have hib:i<b.length:=by have:=HL.out;omega
    obtain⟨ba,offa,rfl,hba,hcapa,hcx⟩:=(HA.out.below hB).at hia
    obtain⟨bb,offb,rfl,hbb,hcapb,hcy⟩:=(HB.out.below hB).at hib
    have hcp:=CP.out i hia (λj h1 h2=>hsame j h1 h2)
    have hsn:a[i]?.getD 0=b[i]?.getD 0->∀j,i<=j->j<a.length->a[j]?.getD 0=b[j]?.getD 0:=λe j h1 h2=>by
     rcases Nat.lt_or_ge i j with h|h
     ·exact hsame j h h2
     ·obtain rfl:j=i:=by omega
      exact e
    have HS:=hid hsn;clear hsn hsame hi1
    have hx:=zaj SA.out (by decide) i
    have hy:=zaj SB.out (by decide) i
    have hx':a[i]?.getD 0<1000000:=hx
    have hy':b[i]?.getD 0<1000000:=hy
    clear hx hy
    have HLb:(a.length:Int)=b.length:=by have:=HL.out;omega
    have HB2:=hid hB
    generalize a[i]?.getD 0=x at*
    generalize b[i]?.getD 0=y at*
    rcases Nat.lt_trichotomy x y with hc|hc|hc
    ·have ho:ordN m n= -1:=by unfold ordN;rw[if_pos (hcp.1 hc)]
     have HO:=hid ho
     clear hcp HS ho
     go_wp2
     go_quiet (fail)
     go_wp2
     go_ret
     exact⟨by rw[HO.out];rfl,zzD HB2.out _⟩
    ·have HS':=hid (HS.out hc)
     subst hc
     clear hcp HS
     go_wp2
     go_quiet (fail)
     go_wp2
     go_quiet (fail)
     go_wp2
     go_roundw
     case rel=>exact⟨i,by omega,rfl,HS'.out,zzD HB2.out _⟩
     case measure=>simp[zL]
    ·have ho:ordN m n=1:=by unfold ordN;have:=hcp.2 hc;rw[if_neg (by omega),if_neg (by omega)]
     have hc2:¬x<y:=by omega
     have HO:=hid ho
     clear hcp HS ho
     go_wp2
     go_quiet (fail)
     go_wp2
     go_quiet (fail)
     go_wp2
     go_ret
     exact⟨by rw[HO.out];rfl,zzD (zzD HB2.out _) _⟩
 ·have hl':¬(((zaa B6 m).length:Int)=(zaa B6 n).length):=by omega
  rcases Nat.lt_or_gt_of_ne hl with h|h
  ·have ho:ordN m n= -1:=by unfold ordN;rw[if_pos (hlt' h)]
   rw[ho]
   clear ho hlt' hgt' hl
   generalize (zaa B6 m).length=x at*
   generalize (zaa B6 n).length=y at*
   go_enter Tryz.func146,Tryz.ntmps146
   go_wp2
   go_ret
   exact⟨rfl,zM _ _⟩
  ·have ho:ordN m n=1:=by unfold ordN;have:=hgt' h;rw[if_neg (by omega),if_neg (by omega)]
   rw[ho]
   have h2:¬(zaa B6 m).length<(zaa B6 n).length:=by omega
   clear ho hlt' hgt' hl
   generalize (zaa B6 m).length=x at*
   generalize (zaa B6 n).length=y at*
   go_enter Tryz.func146,Tryz.ntmps146
   go_wp2
   go_ret
   exact⟨rfl,zM _ _⟩
end
section
open Go.RowKit Lib Str Limb
theorem z14 {a b:List Nat} (sa:zal B6 a) (sb:zal B6 b) (i:Nat) (hi:i<a.length):
 (zay B6 (a[i]?.getD 0) b i (zbp B6 a b i) (b.length+1)).2=0:=by
 have hB:2<=B6:=by decide
 obtain⟨t1,t2,t3⟩:=zdf hB sa sb i (Nat.le_of_lt hi)
 obtain⟨r1,r2,r3,r4⟩:=zfw hB (zaj sa (by decide) i) sb i t2 (b.length+1) (by rw[t1];omega)
 rw[List.take_of_length_le (by omega),t3] at r4
 have k1:valL B6 (a.take i)*valL B6 b+B6^i*(a[i]?.getD 0*valL B6 b)=valL B6 (a.take (i+1))*valL B6 b:=by
  rw[zbo,Nat.add_mul,Nat.mul_assoc]
 rw[k1] at r4
 have h1:=zb6 (zcu sa (i+1))
 rw[List.length_take,Nat.min_eq_left (by omega)] at h1
 have h2:=zb6 sb
 have h3:valL B6 (a.take (i+1))*valL B6 b<B6^(i+1)*B6^b.length:=Nat.mul_lt_mul'' h1 h2
 rw[<-Nat.pow_add,show i+1+b.length=i+(b.length+1) by omega] at h3
 rcases Nat.eq_zero_or_pos (zay B6 (a[i]?.getD 0) b i (zbp B6 a b i) (b.length+1)).2 with h|h
 ·exact h
 ·have:=Nat.mul_le_mul_left (B6^(i+(b.length+1))) h
  omega
theorem zzr {x:Nat} {b out:List Nat} (i:Nat) (so:zal B6 (zay B6 x b i out b.length).1) (hlen:i+b.length<(zay B6 x b i out b.length).1.length) (h:(zay B6 x b i out b.length).2=0):
 (zay B6 x b i out (b.length+1)).1=(zay B6 x b i out b.length).1:=by
 show(zay B6 x b i out b.length).1.set (i+b.length) (((zay B6 x b i out b.length).1[i+b.length]?.getD 0+x*b[b.length]?.getD 0+(zay B6 x b i out b.length).2)%B6)=_
 rw[h,List.getElem?_eq_none (l:=b) (zN _)]
 have:=zaj so (by decide) (i+b.length)
 simp only[Option.getD_none,Nat.mul_zero,Nat.add_zero]
 rw[Nat.mod_eq_of_lt this,List.getElem?_eq_getElem hlen]
 simp
theorem znx (va vb:Value) (a b:List Nat) (w:zA) (ha:Sl w va (a.map I)) (hb:Sl w vb (b.map I)) (sa:zal B6 a) (sb:zal B6 b) (la:a.length<=1000) (lb:b.length<=1000):
 zC zF 145 #[va,vb] w (zht w (zaa B6 (valL B6 a*valL B6 b))):=by
 rw[<-zjp (B:=B6) (by decide) sa sb]
 obtain⟨i0,hi,hz0,hz1,hz2⟩:=info_parts zdv
 have ha':=ha;have hb':=hb
 obtain⟨pa,ca,rfl,hca,hcella⟩:=ha
 obtain⟨pb,cb,rfl,hcb,hcellb⟩:=hb
 have HA:=hid ha';clear ha' hcella hca
 have HB:=hid hb';clear hb' hcellb hcb
 have SA:=hid sa;clear sa
 have SB:=hid sb;clear sb
 simp only[zV] at*
 go_enter Tryz.func145,Tryz.ntmps145
 go_wp2_with (at_make;refine wpList_make_full _ rfl _ _ 123 rfl w.heap.size 3 i0 (.int .i64 0) 1 Tryz.underlying123 hi hz0 hz1 .i64 .i64 _ _ (a.length+b.length+1) rfl rfl (by omega) (by omega) (by rw[hz2];omega) (by unfold maxLen;omega) (zN _) ?_)
 intro w0 hown hgrow
 rw[toList_madeCells_one,<-show(List.replicate (a.length+b.length+1) 0).map I=List.replicate (a.length+b.length+1) (.int .i64 0) by simp] at hown
 obtain⟨hrow, -⟩:=Row.of_own hown
 have hB0:qL w w0:=(zM _ _).grown hgrow (zN _) (λ_ e=>by cases e)
 clear hown hgrow
 obtain⟨N,hN⟩:∃N,N=a.length+b.length+1:=⟨_,rfl⟩
 have hN2:(a.length:Int)+b.length+1=N:=by omega
 rw[<-hN] at hrow⊢
 have HN:=hid hN;clear hN
 obtain⟨g,hg⟩:∃g,g=w.heap.size:=⟨_,rfl⟩
 rw[<-hg] at hrow⊢
 have HG:=hid hg;clear hg
 clear hN2
 go_wp2
 go_loopw [6] (λi wr=>∃k:Nat,k<=a.length/\i=.int .i64 k/\Row wr g N (zbp B6 a b k)/\zB w.heap.size w wr)
  (λi _=>a.length-(zL i).toNat)
 case atStart=>exact⟨0,zR _,rfl,by rw[zbp,<-HN.out];exact hrow,hB0⟩
 case round=>
  clear hrow hB0
  obtain⟨i,hk,rfl,hrow,hB⟩:=hrel
  by_cases hlt:i<a.length
  ·obtain⟨ba,offa,rfl,hba,hcapa,hcx⟩:=(HA.out.below hB).at hlt
   have hxs:=zaj SA.out (by decide) i
   obtain⟨ts1,ts2, -⟩:=zdf (B:=B6) (by decide) SA.out SB.out i hk
   have hst:zbp B6 a b (i+1)=(zay B6 (a[i]?.getD 0) b i (zbp B6 a b i) (b.length+1)).1:=rfl
   have hre:=z14 SA.out SB.out i hlt
   rw[<-HN.out] at ts1
   have HST:=hid hst;clear hst
   have HRE:=hid hre;clear hre
   generalize zbp B6 a b i=L at*
   have TS1:=hid ts1;clear ts1
   have TS2:=hid ts2;clear ts2
   have hxe:a[i]?.getD 0<1000000:=hxs
   clear hxs hcx
   have HXA:=hid hxe;clear hxe
   obtain⟨x,hx⟩:∃x,x=a[i]?.getD 0:=⟨_,rfl⟩
   rw[<-hx] at HST HRE HXA
   have HXE:=hid hx;clear hx
   go_wp2
   obtain⟨wo,hwo⟩:∃wo:zA,wo=wr:=⟨_,rfl⟩
   have HWO:=hid hwo;clear hwo
   go_loopw [7,8] (λc j wr=>∃k:Nat,k<=b.length+1/\j=.int .i64 k/\c=I (zay B6 x b i L k).2/\Row wr g N (zay B6 x b i L k).1/\zB w.heap.size w wr)
    (λ_ j _=>b.length+1-(zL j).toNat)
   case atStart=>exact⟨0,zR _,rfl,rfl,hrow,hB⟩
   case round=>
    clear hrow hB
    obtain⟨k,hkk,rfl,rfl,hrow,hB⟩:=hrel
    have HN3:N=a.length+b.length+1:=HN.out
    obtain⟨r1,r2,r3, -⟩:=zfw (B:=B6) (by decide) (show x<B6 from HXA.out) SB.out i TS2.out k (by rw[TS1.out];omega)
    by_cases hgo:k<b.length\/0<(zay B6 x b i L k).2
    ·have hlk:k<b.length+1:=by
      rcases hgo with h|h
      ·omega
      ·rcases Nat.lt_or_ge k (b.length+1) with h'|h'
       ·exact h'
       ·obtain rfl:k=b.length+1:=by omega
        rw[HRE.out] at h;omega
     have hys:=zaj SB.out (by decide) k
     have hst:zay B6 x b i L (k+1)=((zay B6 x b i L k).1.set (i+k) (((zay B6 x b i L k).1[i+k]?.getD 0+x*b[k]?.getD 0+(zay B6 x b i L k).2)%B6),((zay B6 x b i L k).1[i+k]?.getD 0+x*b[k]?.getD 0+(zay B6 x b i L k).2)/B6):=rfl
     have HST2:=hid hst;clear hst
     generalize zay B6 x b i L k=r at*
     obtain⟨l,c⟩:=r
     dsimp only at*
     have hlen:i+k<l.length:=by rw[r1,TS1.out];omega
     have hcell:=hrow.cell (getD_some hlen)
     have hfz:=hrow.frozen (i+k)
     have hzs:=zaj r2 (by decide) (i+k)
     have hc':c<1000000:=r3
     have hz':l[i+k]?.getD 0<1000000:=hzs
     have hy':b[k]?.getD 0<1000000:=hys
     have hx':x<1000000:=HXA.out
     have hb2:i+k<N:=by omega
     have hiN:(0:Int)<=(i:Int)+k:=by omega
     have hiN2:(i:Int)+k<N:=by omega
     have LB:=hid λ(W:zA) (h:qL w W)=>zgz _ b k W (HB.out.below h) (by omega)
     obtain⟨ba',offa',e',hba,hcapa,hcx⟩:=(HA.out.below hB).at hlt
     simp only[Option.some.injEq,Addr.mk.injEq,and_true] at e'
     obtain⟨rfl,rfl⟩:=e'
     rw[<-HXE.out] at hcx
     have HROW:=hid hrow
     clear r1 r2 r3 hzs hys hrow hlen HN3
     generalize hzz:l[i+k]?.getD 0=z at*
     have HZZ:=hid hzz;clear hzz
     generalize b[k]?.getD 0=y at*
     have hp0:(0:Int)<=(x:Int)*y:=by rw[<-Int.natCast_mul];omega
     have hp1:(x:Int)*y<=999998000001:=by
      have:=Nat.mul_le_mul (show x<=999999 by omega) (show y<=999999 by omega)
      rw[<-Int.natCast_mul];omega
     have e1:IntKind.i64.wrap ((x:Int)*y)=(x:Int)*y:=zI _ (by omega)
     have e2:IntKind.i64.wrap ((z:Int)+(x:Int)*y)=(z:Int)+(x:Int)*y:=zI _ (by omega)
     have e3:IntKind.i64.wrap ((z:Int)+(x:Int)*y+c)=(z:Int)+(x:Int)*y+c:=zI _ (by omega)
     have e4:IntKind.i64.wrap ((i:Int)+k)=(i:Int)+k:=zI _ (by omega)
     have e5:((i:Int)+k).toNat=i+k:=by omega
     have HP:=hid (⟨hp0,hp1⟩:_/\_);clear hp0 hp1
     have h3:k<b.length\/(¬k<b.length/\0<c):=by omega
     clear hgo
     rcases h3 with h1|⟨h1,h2⟩<;>(
      go_wp2
      go_quiet ((go_at_call 143;exact Calls.quiet_of_same (zi5 (LB.out _ (hB.trans (zzD (zM _ _) _))))))
      clear e1 e2 e3
      have hp0:=HP.out.1;have hp1:=HP.out.2
      go_wp2
      go_roundw
      case rel=>
       refine⟨k+1,by omega,by go_num,?_,?_,?_⟩
       ·rw[HST2.out];simp[B6]
       ·rw[HST2.out]
        have:=Row.set (w:=wr.drewN nq) (show Row (wr.drewN nq) g N l from HROW.out) (i+k) ((z+x*y+c)%B6)
        have e:I ((z+x*y+c)%B6)=.int .i64 (((z:Int)+x*y+c)%1000000):=by simp[I,B6]
        rw[e] at this
        exact this
       ·exact(zzD hB _).setCell (by rw[HG.out];exact zN _) _
      case measure=>simp[zL];omega)
    ·have h1:¬k<b.length:=λh=>hgo (.inl h)
     have h2:(zay B6 x b i L k).2=0:=by have:=λh=>hgo (.inr h);omega
     have hres:(zay B6 x b i L k).1=zbp B6 a b (i+1):=by
      rw[HST.out]
      rcases Nat.lt_or_ge k (b.length+1) with h|h
      ·obtain rfl:k=b.length:=by omega
       exact(zzr i r2 (by rw[r1,TS1.out];omega) h2).symm
      ·obtain rfl:k=b.length+1:=by omega
       rfl
     rw[h2] at*
     rw[hres] at hrow
     have HROW:=hid hrow;clear hrow hres r1 r2 r3 hgo
     go_wp2
     go_roundw
     case rel=>exact⟨i+1,by omega,by go_num,HROW.out,hB⟩
     case measure=>simp[zL];omega
  ·obtain rfl:i=a.length:=by omega
   obtain⟨ts1,ts2, -⟩:=zdf (B:=B6) (by decide) SA.out SB.out a.length hk
   rw[<-HN.out] at ts1
   have hsl:=hrow.sl
   have hown:=hrow.own (base:=w.heap.size) (by rw[HG.out];exact zN _)
   rw[ts1] at hsl
   have HE:=hid (⟨ts1,hown⟩:_/\_)
   generalize hL:zbp B6 a b a.length=L at*
   have HSL:=hid hsl;clear hsl hown hrow ts1 ts2
   have HLL:=hid hL;clear hL
   go_wp2_with fail
   refine(zeb _ _ _ L wr HSL.out (by rw[HE.out.1,HN.out];omega)).mono ?_
   rintro e w1 ⟨rfl,rfl⟩
   go_wp2_with fail
   go_ret
   have:=zeq HE.out.2 rfl
   rw[HE.out.1] at this
   exact⟨_,rfl,this,hB⟩
end
section
open Go.RowKit Go.Shelf Lib Str Limb
attribute [local go_sem] Oper.semAt_some
end
end Go.Proofs.YtccijmidbdapaaaGreatDoor
