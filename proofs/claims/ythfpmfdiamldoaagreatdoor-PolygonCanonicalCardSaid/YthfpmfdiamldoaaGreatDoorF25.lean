/- surd.Make on the example. -/
import Derived.Test.YthfpmfdiamldoaaGreatDoorF24
import Derived.Test.YthfpmfdiamldoaaGreatDoorF23
import Derived.Maps.AppendAt
set_option maxRecDepth 100000
set_option maxHeartbeats 8000000
open Go renaming World → zA
open Go.RowKit renaming Below → zB, intOf → zL
open Go.Lib renaming decDigits → zD
open Go.Proofs.Tryz renaming prog → zF
open Go.World renaming alloc_heap_new → zG
open Go.IntWalk renaming i64_in → zI
open Go.Joins renaming cell_of_block → zJ
open Go.RowKit.Below renaming refl → zM
open Nat renaming le_refl → zN, mod_lt → zP, mod_eq_of_lt → zQ, zero_le → zR
namespace Go.Proofs.YthfpmfdiamldoaaGreatDoor
section
open Go.RowKit Go.Shelf Lib Str Limb
attribute [local go_sem] Oper.semAt_some
theorem zi2 (n:Nat) (h:n<100) (W:zA) (hW:Wd W):qJ 80 #[St (zD n)] W (.int .i64 0):=by
 have hz:=zgo n h
 have:=zfj ((n:Int):Rat) (zd0 (by omega) (by omega) hz) W hW
 rwa [zc5] at this
theorem zlj (W:zA) (hW:Wd W):qJ 80 #[.string ⟨#[49]⟩] W (.int .i64 0):=by
 have:=zfj 1 zn5 W hW
 rwa [zfc] at this
theorem zvr (W:zA) (hW:Wd W):qJ 139 #[.string ⟨#[49,50]⟩] W (.int .i64 2):=by
 have:=znp ((12:Nat):Int) (zd0 (by omega) (by omega) (zgo 12 (by omega))) W hW
 rw[zc5,zf8.2.2.2] at this
 have e1:digs (((12:Nat):Int):Rat).num=2:=by show(zD 12).length=2;rw[zf8.2.2.2];rfl
 have e2:digs ((((12:Nat):Int):Rat).den:Int)=1:=by show(zD 1).length=1;rw[zfg];rfl
 rw[e1,e2] at this
 exact this
theorem zsc:(Tryz.prog.info? 57).map (λi=>(i.zero,i.size,i.bytes))=some (some (.agg #[St [],St []]),2,32):=by kernel_rfl
theorem zoq (W:zA) (x y:Value) (t:TypeId):∀i u,[x,y][i]? =some u->(W.alloc (.cells #[x,y] t)).cell? ((⟨W.heap.size,0,none⟩:Addr).add i)=some u:=λi u hu=>by
 have A:=zG W (.cells #[x,y] t)
 have:((⟨W.heap.size,0,none⟩:Addr).add i)=⟨W.heap.size,i,none⟩:=by simp only[Addr.add,Nat.zero_add];split<;>simp_all
 rw[this,zJ A]
 match i,hu with
 |0,hu=>exact hu
 |1,hu=>exact hu
theorem zm4 (x y:List UInt8):∀u∈[St x,St y],u.oneCell'=true:=λu hu=>by
 simp at hu;rcases hu with rfl|rfl<;>rfl
theorem z2e {w:zA} {base:Nat} {t:TypeId} {v x y:Value} (h:w.ownsRow base t 2 v 1 [x,y]):∃g c,v=.slice (some ⟨g,0,none⟩) 1 c/\base<=g/\g<w.heap.size/\w.cell? ⟨g,0,none⟩=some x/\w.cell? ⟨g,1,none⟩=some y:=by
 rcases h.2 with⟨_,e⟩|⟨g,cp,cur,e,hg1,hg2,_,_,hcs,htk⟩
 ·omega
 ·refine⟨g,cp,e,hg1,(Array.getElem?_eq_some_iff.1 hg2).1,?_,?_⟩
  ·have h0:=congrArg (λl=>l[0]?) htk
   rw[List.getElem?_take] at h0
   rw[zJ hg2]
   simpa using h0
  ·have h0:=congrArg (λl=>l[1]?) htk
   rw[List.getElem?_take] at h0
   rw[zJ hg2]
   simpa using h0
theorem zj7 (n:Nat) (W:zA):Calls zF 118 #[St (zD n),.string ⟨#[45]⟩] W λe w'=>e=.returned (.bool false)/\w'=W:=by
 have hc:=Tryz.strings_HasPrefix ⟨(zD n).toArray⟩ ⟨#[45]⟩ W
 obtain⟨c,r,e,hc1,_⟩:=dec_head n
 have hc5:c≠45:=λh=>by subst h;simp at hc1
 have hp:Lib.hasPrefix (zD n) [45]=false:=by rw[e];simp[Lib.hasPrefix,List.isPrefixOf,Ne.symm hc5]
 rw[show(⟨(zD n).toArray⟩:ByteArray).data.toList=zD n from rfl,show(⟨#[45]⟩:ByteArray).data.toList=[45] from rfl,hp] at hc
 exact hc
theorem z0e (b off cap:Nat) (w:zA) (HW:Hid (∀W,zB w.heap.size w W->Wd W)) (HP:Hid (∀W,zB w.heap.size w W->Pw W))
 (t0:w.cell? ⟨b,off,none⟩=some (.string ⟨#[49]⟩)) (t1:w.cell? ⟨b,off+1,none⟩=some (St (zD (4*4)))) (t2:w.cell? ⟨b,off+2,none⟩=some (.string ⟨#[49]⟩)) (t3:w.cell? ⟨b,off+3,none⟩=some (St (zD (3*3))))
 (t4:w.cell? ⟨b,off+4,none⟩=some (.string ⟨#[49]⟩)) (t5:w.cell? ⟨b,off+5,none⟩=some (St (zD (5*5)))):
 Calls zF 79 #[.slice (some ⟨b,off,none⟩) 3 cap] w λe w'=>∃g c,e=.returned (.tuple #[.slice (some ⟨g,0,none⟩) 1 c,.int .i64 0])/\zB w.heap.size w w'/\w.heap.size<=g/\w'.cell? ⟨g,0,none⟩=some (St [49,50])/\w'.cell? ⟨g,1,none⟩=some (.string ⟨#[49]⟩):=by
 obtain⟨i0,hi,hz0,hz1,hz2⟩:=info_parts zsc
 have hb:=zbe t0
 have T:=hid (⟨t0,t1,t2,t3,t4,t5⟩:_/\_/\_/\_/\_/\_)
 have D0:=hid (zM w.heap.size w)
 clear t0 t1 t2 t3 t4 t5
 obtain⟨r1,hr1⟩:∃r,r=zD (4*4):=⟨_,rfl⟩
 obtain⟨r2,hr2⟩:∃r,r=zD (3*3):=⟨_,rfl⟩
 obtain⟨r3,hr3⟩:∃r,r=zD (5*5):=⟨_,rfl⟩
 rw[<-hr1,<-hr2,<-hr3] at T
 have C1:Hid (qK 80 #[St r1] (.int .i64 0)):=hid (by rw[hr1];exact λW hW=>zi2 _ (by omega) W hW)
 have X1:Hid (∀W:zA,Calls zF 118 #[St r1,.string ⟨#[45]⟩] W λe w'=>e=.returned (.bool false)/\w'=W):=hid (by rw[hr1];exact λW=>zj7 _ W)
 have C2:Hid (qK 80 #[St r2] (.int .i64 0)):=hid (by rw[hr2];exact λW hW=>zi2 _ (by omega) W hW)
 have X2:Hid (∀W:zA,Calls zF 118 #[St r2,.string ⟨#[45]⟩] W λe w'=>e=.returned (.bool false)/\w'=W):=hid (by rw[hr2];exact λW=>zj7 _ W)
 have C3:Hid (qK 80 #[St r3] (.int .i64 0)):=hid (by rw[hr3];exact λW hW=>zi2 _ (by omega) W hW)
 have X3:Hid (∀W:zA,Calls zF 118 #[St r3,.string ⟨#[45]⟩] W λe w'=>e=.returned (.bool false)/\w'=W):=hid (by rw[hr3];exact λW=>zj7 _ W)
 have HR:=hid (⟨hr1,hr2,hr3⟩:_/\_/\_)
 clear hr1 hr2 hr3
 go_enter Tryz.func79,Tryz.ntmps79
 go_wp2_with fail
 refine wp_loop_rounds 4 ?_
 have t0:w.cell? ⟨b,off,none⟩=some (.string ⟨#[49]⟩):=by rw[D0.out.cell (p:=⟨b,off,none⟩) hb];exact T.out.1
 have t1:w.cell? ⟨b,off+1,none⟩=some (St r1):=by rw[D0.out.cell (p:=⟨b,off+1,none⟩) hb];exact T.out.2.1
 rw[rounds_succ]
 obtain⟨v1,hv⟩:∃v1,v1=w.alloc (.cells #[.string ⟨#[49]⟩,St r1] 57):=⟨_,rfl⟩
 have a1:zB w.heap.size w v1:=by rw[hv];exact(zM _ w).alloc (zN _) _
 have A1:v1.heap[w.heap.size]? =some (.cells #[.string ⟨#[49]⟩,St r1] 57 (0,0)):=by rw[hv];exact zG w _
 have HV:=hid hv;clear hv
 go_wp2_with fail
 rw[<-show v1=w.alloc (.cells #[.string ⟨#[49]⟩,.string ⟨r1.toArray⟩] 57) from HV.out]
 clear t0 t1 HV
 refine(zlj v1 (HW.out _ (D0.out.trans (a1.mono D0.out.size)))).mono ?_
 rintro e y1 ⟨rfl,hb1⟩
 have E1:=hid (a1.trans (hb1.mono a1.size));have B1:=hid (zac hb1 _ _ _ _ A1)
 clear a1 A1 hb1
 have k1:y1.cell? ⟨w.heap.size,1,none⟩=some (St r1):=by rw[zJ B1.out];rfl
 go_wp2_with fail
 refine(C1.out y1 (HW.out _ (D0.out.trans (E1.out.mono D0.out.size)))).mono ?_
 rintro e y2 ⟨rfl,hb1⟩
 have E2:=hid (E1.out.trans (hb1.mono E1.out.size));have B2:=hid (zac hb1 _ _ _ _ B1.out)
 clear hb1 k1 E1 B1
 have k1:y2.cell? ⟨w.heap.size,1,none⟩=some (St r1):=by rw[zJ B2.out];rfl
 go_wp2_with fail
 refine(X1.out y2).mono ?_
 rintro e u1 ⟨rfl,hw1⟩
 have hw2:=hw1.symm
 have D1:Hid (zB w.heap.size w u1):=hid (by rw[hw1];exact D0.out.trans (E2.out.mono D0.out.size))
 clear hw1 hw2 k1 E2 B2
 go_wp2_with fail
 have t0:u1.cell? ⟨b,off+2,none⟩=some (.string ⟨#[49]⟩):=by rw[D1.out.cell (p:=⟨b,off+2,none⟩) hb];exact T.out.2.2.1
 have t1:u1.cell? ⟨b,off+2+1,none⟩=some (St r2):=by rw[D1.out.cell (p:=⟨b,off+2+1,none⟩) hb];exact T.out.2.2.2.1
 rw[rounds_succ]
 obtain⟨v2,hv⟩:∃v2,v2=u1.alloc (.cells #[.string ⟨#[49]⟩,St r2] 57):=⟨_,rfl⟩
 have a1:zB u1.heap.size u1 v2:=by rw[hv];exact(zM _ u1).alloc (zN _) _
 have A1:v2.heap[u1.heap.size]? =some (.cells #[.string ⟨#[49]⟩,St r2] 57 (0,0)):=by rw[hv];exact zG u1 _
 have HV:=hid hv;clear hv
 go_wp2_with fail
 rw[<-show v2=u1.alloc (.cells #[.string ⟨#[49]⟩,.string ⟨r2.toArray⟩] 57) from HV.out]
 clear t0 t1 HV
 refine(zlj v2 (HW.out _ (D1.out.trans (a1.mono D1.out.size)))).mono ?_
 rintro e y1 ⟨rfl,hb1⟩
 have E1:=hid (a1.trans (hb1.mono a1.size));have B1:=hid (zac hb1 _ _ _ _ A1)
 clear a1 A1 hb1
 have k1:y1.cell? ⟨u1.heap.size,1,none⟩=some (St r2):=by rw[zJ B1.out];rfl
 go_wp2_with fail
 refine(C2.out y1 (HW.out _ (D1.out.trans (E1.out.mono D1.out.size)))).mono ?_
 rintro e y2 ⟨rfl,hb1⟩
 have E2:=hid (E1.out.trans (hb1.mono E1.out.size));have B2:=hid (zac hb1 _ _ _ _ B1.out)
 clear hb1 k1 E1 B1
 have k1:y2.cell? ⟨u1.heap.size,1,none⟩=some (St r2):=by rw[zJ B2.out];rfl
 go_wp2_with fail
 refine(X2.out y2).mono ?_
 rintro e u2 ⟨rfl,hw1⟩
 have hw2:=hw1.symm
 have D2:Hid (zB w.heap.size w u2):=hid (by rw[hw1];exact D1.out.trans (E2.out.mono D1.out.size))
 clear hw1 hw2 k1 E2 B2
 go_wp2_with fail
 have t0:u2.cell? ⟨b,off+4,none⟩=some (.string ⟨#[49]⟩):=by rw[D2.out.cell (p:=⟨b,off+4,none⟩) hb];exact T.out.2.2.2.2.1
 have t1:u2.cell? ⟨b,off+4+1,none⟩=some (St r3):=by rw[D2.out.cell (p:=⟨b,off+4+1,none⟩) hb];exact T.out.2.2.2.2.2
 rw[rounds_succ]
 obtain⟨v3,hv⟩:∃v3,v3=u2.alloc (.cells #[.string ⟨#[49]⟩,St r3] 57):=⟨_,rfl⟩
 have a1:zB u2.heap.size u2 v3:=by rw[hv];exact(zM _ u2).alloc (zN _) _
 have A1:v3.heap[u2.heap.size]? =some (.cells #[.string ⟨#[49]⟩,St r3] 57 (0,0)):=by rw[hv];exact zG u2 _
 have HV:=hid hv;clear hv
 go_wp2_with fail
 rw[<-show v3=u2.alloc (.cells #[.string ⟨#[49]⟩,.string ⟨r3.toArray⟩] 57) from HV.out]
 clear t0 t1 HV
 refine(zlj v3 (HW.out _ (D2.out.trans (a1.mono D2.out.size)))).mono ?_
 rintro e y1 ⟨rfl,hb1⟩
 have E1:=hid (a1.trans (hb1.mono a1.size));have B1:=hid (zac hb1 _ _ _ _ A1)
 clear a1 A1 hb1
 have k1:y1.cell? ⟨u2.heap.size,1,none⟩=some (St r3):=by rw[zJ B1.out];rfl
 go_wp2_with fail
 refine(C3.out y1 (HW.out _ (D2.out.trans (E1.out.mono D2.out.size)))).mono ?_
 rintro e y2 ⟨rfl,hb1⟩
 have E2:=hid (E1.out.trans (hb1.mono E1.out.size));have B2:=hid (zac hb1 _ _ _ _ B1.out)
 clear hb1 k1 E1 B1
 have k1:y2.cell? ⟨u2.heap.size,1,none⟩=some (St r3):=by rw[zJ B2.out];rfl
 go_wp2_with fail
 refine(X3.out y2).mono ?_
 rintro e u3 ⟨rfl,hw1⟩
 have hw2:=hw1.symm
 have D3:Hid (zB w.heap.size w u3):=hid (by rw[hw1];exact D2.out.trans (E2.out.mono D2.out.size))
 clear hw1 hw2 k1 E2 B2
 go_wp2_with fail
 rw[rounds_succ]
 go_wp2_with fail
 have N0:zB u3.heap.size u3 (u3.alloc (.cells #[.slice none 0 0] 170)):=(zM _ u3).alloc (zN _) _
 have NA:=zG u3 (.cells #[.slice none 0 0] 170)
 have NZ:(u3.alloc (.cells #[.slice none 0 0] 170)).heap.size=u3.heap.size+1:=by simp
 generalize u3.alloc (.cells #[.slice none 0 0] 170)=vg at*
 have HV:Hid (Calls zF 137 #[.slice (some ⟨b,off,none⟩) 3 cap,.func (.func 138) #[.pointer (some ⟨u3.heap.size,0,none⟩)] #[]] vg λe w'=>e=.returned (.int .i64 0)/\zB u3.heap.size vg w'/\GateS u3.heap.size (zD 12) w'):=hid (by
  obtain⟨q1,q2,q3⟩:=HR.out
  have T':=T.out
  rw[q1,q2,q3] at T'
  obtain⟨t0,t1,t2,t3,t4,t5⟩:=T'
  have hB:zB w.heap.size w vg:=D3.out.trans (N0.mono D3.out.size)
  have hs:=D3.out.size
  have key:∀o v,w.cell? ⟨b,o,none⟩=some v->vg.cell? ⟨b,o,none⟩=some v:=λo v h=>by rw[hB.cell (p:=⟨b,o,none⟩) hb];exact h
  exact zx9 u3.heap.size b off cap (by omega) vg (by omega) (λW h=>HW.out _ (D3.out.trans ((N0.trans h).mono hs))) (λW h=>HP.out _ (D3.out.trans ((N0.trans h).mono hs)))
   ⟨by rw[zJ NA];rfl,by rw[Go.Joins.unfrozen_of_block NA]⟩ (key _ _ t0) (key _ _ t1) (key _ _ t2) (key _ _ t3) (key _ _ t4) (key _ _ t5))
 clear NA NZ T
 refine HV.out.mono ?_
 rintro e z ⟨rfl,hz,hg⟩
 rw[zf8.2.2.2] at hg
 have DZ:Hid (zB w.heap.size w z):=hid (D3.out.trans ((N0.trans hz).mono D3.out.size))
 obtain⟨⟨cb,ccap,cs,g0,hcb,g1,g2,g3⟩,_⟩:=hg
 have c0:z.cell? ⟨cb,0,none⟩=some (.string ⟨#[49,50]⟩):=by rw[zJ g1];exact g2
 have c1:z.cell? ⟨cb,1,none⟩=some (.string ⟨#[49]⟩):=by rw[zJ g1];exact g3
 clear g1 g2 g3 hcb hz N0 HV
 go_wp2_with fail
 refine wp_loop_rounds 2 ?_
 rw[rounds_succ]
 obtain⟨x1,hv⟩:∃x1,x1=z.alloc (.cells #[.string ⟨#[49,50]⟩,.string ⟨#[49]⟩] 174):=⟨_,rfl⟩
 have a1:zB z.heap.size z x1:=by rw[hv];exact(zM _ z).alloc (zN _) _
 have A1:x1.heap[z.heap.size]? =some (.cells #[.string ⟨#[49,50]⟩,.string ⟨#[49]⟩] 174 (0,0)):=by rw[hv];exact zG z _
 have HX:=hid hv;clear hv
 go_wp2_with fail
 rw[<-show x1=z.alloc (.cells #[.string ⟨#[49,50]⟩,.string ⟨#[49]⟩] 174) from HX.out]
 have DX:Hid (zB w.heap.size w x1):=hid (DZ.out.trans (a1.mono DZ.out.size))
 have k0:x1.cell? ⟨z.heap.size,0,none⟩=some (.string ⟨#[49,50]⟩):=by rw[zJ A1];rfl
 clear c0 c1 g0 a1 HX HR
 go_wp2_with fail
 refine(zvr x1 (HW.out _ DX.out)).mono ?_
 rintro e y1 ⟨rfl,hb1⟩
 have E1:=hid (DX.out.trans (hb1.mono DX.out.size));have B1:=hid (zac hb1 _ _ _ _ A1)
 clear A1 hb1 k0
 have k1:y1.cell? ⟨z.heap.size,1,none⟩=some (.string ⟨#[49]⟩):=by rw[zJ B1.out];rfl
 go_wp2_with fail
 refine(zml y1 (HW.out _ E1.out)).mono ?_
 rintro e y2 ⟨rfl,hb1⟩
 have E2:=hid (E1.out.trans (hb1.mono E1.out.size));have B2:=hid (zac hb1 _ _ _ _ B1.out)
 clear k1 E1 B1 hb1
 have k0:y2.cell? ⟨z.heap.size,0,none⟩=some (.string ⟨#[49,50]⟩):=by rw[zJ B2.out];rfl
 have k1:y2.cell? ⟨z.heap.size,1,none⟩=some (.string ⟨#[49]⟩):=by rw[zJ B2.out];rfl
 go_wp2_with (at_builtin;refine wpList_append_own _ rfl _ _ 52 rfl w.heap.size 57 i0 (.agg #[St [],St []]) 2 32 Tryz.underlying52 hi hz0 hz1 hz2 rfl (by decide) (.slice none 0 0) 0 [] rfl (World.ownsRow_nil _ _ _ _) ⟨y2.heap.size,0,none⟩ 1 1 [St [49,50],St [49]] rfl rfl (zoq _ _ _ _) (zm4 _ _) (by unfold maxLen;omega) (by omega) (by have:=E2.out.size;simp;omega) (λv' w' hown' hgrow _=>?_))
 obtain⟨g,gc,rfl,hg,hgl,q0,q1⟩:=z2e hown'
 have F1:Hid (zB w.heap.size w w'):=hid ((E2.out.alloc E2.out.size _).grown hgrow (by have:=E2.out.size;simp;omega) (λq e=>by cases e))
 have HQ:=hid (⟨hg,hgl,q0,q1⟩:w.heap.size<=g/\g<w'.heap.size/\w'.cell? ⟨g,0,none⟩=some (St [49,50])/\w'.cell? ⟨g,1,none⟩=some (St [49]))
 clear hgrow hown' k0 k1 hg hgl q0 q1
 rw[rounds_succ]
 go_wp2_with fail
 refine(z0d _ _ _ w').mono ?_
 rintro e y5 ⟨⟨u,rfl⟩,hw5⟩
 have hw6:=hw5.symm;subst hw6;clear hw5
 go_wp2_with fail
 go_ret2
 exact⟨g,gc,rfl,F1.out,HQ.out.1,HQ.out.2.2.1,HQ.out.2.2.2⟩
end
section
open Go.RowKit Go.Shelf Lib Str Limb Geo
attribute [local go_sem] Oper.semAt_some
theorem z29:(Tryz.prog.info? 25).map (λi=>(i.zero,i.size,i.bytes))=some (some (.agg #[St [],St []]),2,32):=by kernel_rfl
def zhh:List (List UInt8×List UInt8)->List Value
 |[]=>[]
 |p::r=>St p.1::St p.2::zhh r
theorem zn6:∀(l:List (List UInt8×List UInt8)) (p:List UInt8×List UInt8),zhh (l++[p])=zhh l++[St p.1,St p.2]
 |[],_=>rfl
 |a::r,p=>by show St a.1::St a.2::zhh (r++[p])=_;rw[zn6 r p];rfl
theorem zsd:∀(l:List (List UInt8×List UInt8)) (k:Nat),k<l.length->(zhh l)[k*2]? =some (St (ptOf l k).1)/\(zhh l)[k*2+1]? =some (St (ptOf l k).2)
 |a::r,0,_=>⟨rfl,rfl⟩
 |a::r,k+1,h=>by
  have:=zsd r k (by simpa using h)
  rw[show(k+1)*2=k*2+1+1 by omega]
  exact this
def accT (ok:Nat->Bool) (x:Nat->List UInt8×List UInt8):Nat->List (List UInt8×List UInt8)
 |0=>[]
 |k+1=>if(ok k&&!(accT ok x k).contains (x k))=true then accT ok x k++[x k] else accT ok x k
theorem zg1 (ok:Nat->Bool) (x:Nat->List UInt8×List UInt8) (k:Nat):accT ok x (k+1)=if(ok k&&!(accT ok x k).contains (x k))=true then accT ok x k++[x k] else accT ok x k:=rfl
theorem zse (ok:Nat->Bool) (x:Nat->List UInt8×List UInt8):∀k,(accT ok x k).length<=k
 |0=>zN _
 |k+1=>by
  have:=zse ok x k
  rw[accT]
  split
  ·simp;exact this
  ·omega
theorem z0f (l:List (List UInt8×List UInt8)) (p:List UInt8×List UInt8) (j:Nat) (hj:j<l.length):(l.take (j+1)).contains p=((l.take j).contains p||decide (ptOf l j=p)):=by
 unfold ptOf
 rw[List.take_add_one,List.getElem?_eq_getElem hj]
 simp only[List.contains_eq_mem,Option.toList_some,List.mem_append,List.mem_singleton,Option.getD_some,Bool.decide_or]
 congr 1
 rw[decide_eq_decide]
 exact eq_comm
structure LineS (w:zA) (x1 y1 x2 y2 x3 y3 x4 y4:List UInt8) (E:Nat) (X Y:Nat->List UInt8) (q:Option Addr) (m c:Nat) (acc:List (List UInt8×List UInt8)) (W:zA):Prop where
 four:FourS w x1 y1 x2 y2 x3 y3 x4 y4 W
 hE:w.heap.size+3<E
 ends:∀k,k<4->W.cell? ⟨E,k*2,none⟩=some (St (X k))/\W.cell? ⟨E,k*2+1,none⟩=some (St (Y k))
 own:W.ownsRow (w.heap.size+4) 25 2 (.slice q m c) acc.length (zhh acc)
 len:m=acc.length
 ne:(Value.slice q m c).ownBlock≠some E
theorem zya {w:zA} {base:Nat} {e:TypeId} {s:Nat} {v:Value} {n:Nat} {xs:List Value} (h:w.ownsRow base e s v n xs):∃q c,v=.slice q n c:=by
 rcases h.2 with⟨rfl,rfl⟩|⟨g,cap,cur,rfl,_⟩
 ·exact⟨none,0,rfl⟩
 ·exact⟨_,_,rfl⟩
section
variable {w:zA} {x1 y1 x2 y2 x3 y3 x4 y4:List UInt8} {E:Nat} {X Y:Nat->List UInt8} {q:Option Addr} {m c:Nat} {acc:List (List UInt8×List UInt8)} {W:zA}
theorem LineS.next {W':zA} (h:LineS w x1 y1 x2 y2 x3 y3 x4 y4 E X Y q m c acc W) (hb:zB W.heap.size W W'):LineS w x1 y1 x2 y2 x3 y3 x4 y4 E X Y q m c acc W':=
 have ck:=zac hb
 ⟨h.four.next hb,h.hE,λk hk=>⟨ck.cell (h.ends k hk).1,ck.cell (h.ends k hk).2⟩,zcj ck h.own,h.len,h.ne⟩
theorem LineS.grow {Z:zA} {v':Value} {x:List UInt8×List UInt8} (h:LineS w x1 y1 x2 y2 x3 y3 x4 y4 E X Y q m c acc W) (hZ:W.grownBy Z (Value.slice q m c).ownBlock)
 (hz:Z.ownsRow (w.heap.size+4) 25 2 v' (acc.length+1) (zhh acc++[St x.1,St x.2])) (hat:v'.ownBlock=(Value.slice q m c).ownBlock\/v'.ownBlock=some W.heap.size):
 ∃q' c',v'=.slice q' (acc.length+1) c'/\LineS w x1 y1 x2 y2 x3 y3 x4 y4 E X Y q' (acc.length+1) c' (acc++[x]) Z:=by
 obtain⟨q',c',rfl⟩:=zya hz
 have hlt:∀g,(Value.slice q m c).ownBlock=some g->w.heap.size+4<=g:=λg e=>(h.own.lt g e).1
 have hne:∀b,b<w.heap.size+4->some b≠(Value.slice q m c).ownBlock:=λb hb e=>by have:=hlt b e.symm;omega
 have hEw:E<W.heap.size:=zbe (h.ends 0 (by omega)).1
 have hl:=h.four.lt
 refine⟨q',c',rfl,⟨h.four.bel.grown hZ (by omega) (λg e=>by have:=hlt g e;omega),Nat.lt_of_lt_of_le hl hZ.size,?_,?_,?_,?_⟩,h.hE,λk hk=>⟨hZ.cell (h.ends k hk).1 (λe=>h.ne e.symm),hZ.cell (h.ends k hk).2 (λe=>h.ne e.symm)⟩,?_,by simp,?_⟩
 ·rw[hZ.block _ (by omega) (hne _ (by omega))];exact h.four.h1
 ·rw[hZ.block _ (by omega) (hne _ (by omega))];exact h.four.h2
 ·rw[hZ.block _ (by omega) (hne _ (by omega))];exact h.four.h3
 ·rw[hZ.block _ (by omega) (hne _ (by omega))];exact h.four.h4
 ·rw[zn6,List.length_append];exact hz
 ·rcases hat with e|e<;>rw[e]
  ·exact h.ne
  ·intro e2;injection e2 with e2;omega
theorem LineS.at (h:LineS w x1 y1 x2 y2 x3 y3 x4 y4 E X Y q m c acc W) (k:Nat) (hk:k<acc.length):∃g,q=some ⟨g,0,none⟩/\W.cell? ⟨g,k*2,none⟩=some (St (ptOf acc k).1)/\W.cell? ⟨g,k*2+1,none⟩=some (St (ptOf acc k).2):=by
 obtain⟨h1,h2⟩:=zsd acc k hk
 rcases h.own.2 with⟨_,e⟩|⟨g,cap,cur,e,_⟩
 ·omega
 ·cases e
  have hc:=h.own.cells (g:=g) rfl
  have ha:∀j,(⟨g,0,none⟩:Addr).add j=⟨g,j,none⟩:=λj=>by unfold Addr.add;split<;>simp_all
  exact⟨g,rfl,by rw[<-ha];exact hc _ _ h1,by rw[<-ha];exact hc _ _ h2⟩
end
structure RndS (w:zA) (x1 y1 x2 y2 x3 y3 x4 y4:List UInt8) (E:Nat) (X Y:Nat->List UInt8) (q:Option Addr) (m c:Nat) (acc:List (List UInt8×List UInt8)) (B:Nat) (x y:List UInt8) (W:zA):Prop where
 line:LineS w x1 y1 x2 y2 x3 y3 x4 y4 E X Y q m c acc W
 bx:W.heap[B]? =some (.cells #[St x,St y] 25 (0,0))
section
variable {w:zA} {x1 y1 x2 y2 x3 y3 x4 y4 x y:List UInt8} {E B:Nat} {X Y:Nat->List UInt8} {q:Option Addr} {m c:Nat} {acc:List (List UInt8×List UInt8)} {W:zA}
theorem RndS.next {W':zA} (h:RndS w x1 y1 x2 y2 x3 y3 x4 y4 E X Y q m c acc B x y W) (hb:zB W.heap.size W W'):RndS w x1 y1 x2 y2 x3 y3 x4 y4 E X Y q m c acc B x y W':=
 ⟨h.line.next hb,(hb.block _ (Array.getElem?_eq_some_iff.1 h.bx).1).trans h.bx⟩
theorem RndS.bel (h:RndS w x1 y1 x2 y2 x3 y3 x4 y4 E X Y q m c acc B x y W):zB w.heap.size w W:=h.line.four.bel
theorem RndS.cx (h:RndS w x1 y1 x2 y2 x3 y3 x4 y4 E X Y q m c acc B x y W):W.cell? ⟨B,0,none⟩=some (St x)/\W.cell? ⟨B,1,none⟩=some (St y):=by have:=h.bx;simp[World.cell?,this]
end
theorem zor (x1 y1 x2 y2 x3 y3 x4 y4:List UInt8) (X Y:Nat->List UInt8) (o1 o2:Nat->Bool) (hX:Hid (∀k,k<4->(#[St x1,St y1,St x2,St y2,St x3,St y3,St x4,St y4]:Array Value)[k*2]? =some (St (X k))/\(#[St x1,St y1,St x2,St y2,St x3,St y3,St x4,St y4]:Array Value)[k*2+1]? =some (St (Y k))))
 (T1:Hid (qK 38 #[.agg #[St x1,St y1],.agg #[St x2,St y2],.agg #[St x3,St y3]] (.int .i64 0)))
 (T2:Hid (qK 38 #[.agg #[St x1,St y1],.agg #[St x2,St y2],.agg #[St x4,St y4]] (.int .i64 0)))
 (T3:Hid (qK 38 #[.agg #[St x3,St y3],.agg #[St x4,St y4],.agg #[St x1,St y1]] (.int .i64 0)))
 (T4:Hid (qK 38 #[.agg #[St x3,St y3],.agg #[St x4,St y4],.agg #[St x2,St y2]] (.int .i64 0)))
 (O1:Hid (∀k,k<4->qK 39 #[.agg #[St x1,St y1],.agg #[St x2,St y2],.agg #[St (X k),St (Y k)]] (.bool (o1 k))))
 (O2:Hid (∀k,k<4->qK 39 #[.agg #[St x3,St y3],.agg #[St x4,St y4],.agg #[St (X k),St (Y k)]] (.bool (o2 k))))
 (U1:Hid (∀k,k<4->qK 38 #[.agg #[St x1,St y1],.agg #[St x2,St y2],.agg #[St (X k),St (Y k)]] (.int .i64 0)))
 (U2:Hid (∀k,k<4->qK 38 #[.agg #[St x3,St y3],.agg #[St x4,St y4],.agg #[St (X k),St (Y k)]] (.int .i64 0)))
 (w:zA) (HW:Hid (Wd w)):
 qJ 44 #[.agg #[St x1,St y1],.agg #[St x2,St y2],.agg #[St x3,St y3],.agg #[St x4,St y4]] w (.int .i64 (min 2 ((accT (λk=>o1 k&&o2 k) (λk=>(X k,Y k)) 4).length:Int))):=by
 have HI:=hid (FourS.start w x1 y1 x2 y2 x3 y3 x4 y4)
 go_enter Tryz.func44,Tryz.ntmps44
 go_wp2_with fail
 refine zbl (λ_ W=>FourS w x1 y1 x2 y2 x3 y3 x4 y4 W) (by kernel_rfl) (by kernel_rfl) (HI.out.next (zM _ _).drew) ?_
 refine qR (.agg #[St x1,St y1]) ?_ (hy:=λf W' hf h=>by obtain⟨i1,i2,i3,i4,i5,i6,i7,i8⟩:=h.cells';go_simp)
 try simp only[zzQ]
 refine qR (.agg #[St x2,St y2]) ?_ (hy:=λf W' hf h=>by obtain⟨i1,i2,i3,i4,i5,i6,i7,i8⟩:=h.cells';go_simp)
 try simp only[zzQ]
 refine qR (.agg #[St x3,St y3]) ?_ (hy:=λf W' hf h=>by obtain⟨i1,i2,i3,i4,i5,i6,i7,i8⟩:=h.cells';go_simp)
 try simp only[zzQ]
 refine zar (.int .i64 0) (by rfl) (λf W' hf h C' hC'=>by
  go_simp
  refine(T1.out _ (HW.out.below h.bel)).mono ?_
  rintro e w' ⟨rfl,hb⟩
  exact⟨rfl,hC' _ (h.next hb)⟩) ?_
 try simp only[zzQ]
 refine qR (.agg #[St x1,St y1]) ?_ (hy:=λf W' hf h=>by obtain⟨i1,i2,i3,i4,i5,i6,i7,i8⟩:=h.cells';go_simp)
 try simp only[zzQ]
 refine qR (.agg #[St x2,St y2]) ?_ (hy:=λf W' hf h=>by obtain⟨i1,i2,i3,i4,i5,i6,i7,i8⟩:=h.cells';go_simp)
 try simp only[zzQ]
 refine qR (.agg #[St x4,St y4]) ?_ (hy:=λf W' hf h=>by obtain⟨i1,i2,i3,i4,i5,i6,i7,i8⟩:=h.cells';go_simp)
 try simp only[zzQ]
 refine zar (.int .i64 0) (by rfl) (λf W' hf h C' hC'=>by
  go_simp
  refine(T2.out _ (HW.out.below h.bel)).mono ?_
  rintro e w' ⟨rfl,hb⟩
  exact⟨rfl,hC' _ (h.next hb)⟩) ?_
 try simp only[zzQ]
 refine qR (.agg #[St x3,St y3]) ?_ (hy:=λf W' hf h=>by obtain⟨i1,i2,i3,i4,i5,i6,i7,i8⟩:=h.cells';go_simp)
 try simp only[zzQ]
 refine qR (.agg #[St x4,St y4]) ?_ (hy:=λf W' hf h=>by obtain⟨i1,i2,i3,i4,i5,i6,i7,i8⟩:=h.cells';go_simp)
 try simp only[zzQ]
 refine qR (.agg #[St x1,St y1]) ?_ (hy:=λf W' hf h=>by obtain⟨i1,i2,i3,i4,i5,i6,i7,i8⟩:=h.cells';go_simp)
 try simp only[zzQ]
 refine zar (.int .i64 0) (by rfl) (λf W' hf h C' hC'=>by
  go_simp
  refine(T3.out _ (HW.out.below h.bel)).mono ?_
  rintro e w' ⟨rfl,hb⟩
  exact⟨rfl,hC' _ (h.next hb)⟩) ?_
 try simp only[zzQ]
 refine qR (.agg #[St x3,St y3]) ?_ (hy:=λf W' hf h=>by obtain⟨i1,i2,i3,i4,i5,i6,i7,i8⟩:=h.cells';go_simp)
 try simp only[zzQ]
 refine qR (.agg #[St x4,St y4]) ?_ (hy:=λf W' hf h=>by obtain⟨i1,i2,i3,i4,i5,i6,i7,i8⟩:=h.cells';go_simp)
 try simp only[zzQ]
 refine qR (.agg #[St x2,St y2]) ?_ (hy:=λf W' hf h=>by obtain⟨i1,i2,i3,i4,i5,i6,i7,i8⟩:=h.cells';go_simp)
 try simp only[zzQ]
 refine zar (.int .i64 0) (by rfl) (λf W' hf h C' hC'=>by
  go_simp
  refine(T4.out _ (HW.out.below h.bel)).mono ?_
  rintro e w' ⟨rfl,hb⟩
  exact⟨rfl,hC' _ (h.next hb)⟩) ?_
 try simp only[zzQ]
 refine qR (.int .i64 0) ?_
 try simp only[zzQ]
 refine qR (.int .i64 0) ?_
 try simp only[zzQ]
 refine qR (.int .i64 0) ?_
 try simp only[zzQ]
 refine qR (.int .i64 0) ?_
 try simp only[zzQ]
 refine zck λf W1 hf h1=>?_
 have HI1:=hid h1
 clear hf h1 HI
 obtain⟨i1,i2,i3,i4,i5,i6,i7,i8⟩:=HI1.out.cells'
 go_wp2_with fail
 clear i1 i2 i3 i4 i5 i6 i7 i8
 refine(T1.out _ (HW.out.below HI1.out.bel)).mono ?_
 rintro e W2 ⟨rfl,hb⟩
 have HI2:=hid (HI1.out.next hb)
 clear hb HI1
 obtain⟨i1,i2,i3,i4,i5,i6,i7,i8⟩:=HI2.out.cells'
 go_wp2_with fail
 clear i1 i2 i3 i4 i5 i6 i7 i8
 refine(T2.out _ (HW.out.below HI2.out.bel)).mono ?_
 rintro e W3 ⟨rfl,hb⟩
 have HI3:=hid (HI2.out.next hb)
 clear hb HI2
 obtain⟨i1,i2,i3,i4,i5,i6,i7,i8⟩:=HI3.out.cells'
 go_wp2_with fail
 clear i1 i2 i3 i4 i5 i6 i7 i8
 refine(T3.out _ (HW.out.below HI3.out.bel)).mono ?_
 rintro e W4 ⟨rfl,hb⟩
 have HI4:=hid (HI3.out.next hb)
 clear hb HI3
 obtain⟨i1,i2,i3,i4,i5,i6,i7,i8⟩:=HI4.out.cells'
 go_wp2_with fail
 clear i1 i2 i3 i4 i5 i6 i7 i8
 refine(T4.out _ (HW.out.below HI4.out.bel)).mono ?_
 rintro e W5 ⟨rfl,hb⟩
 have HI5:=hid (HI4.out.next hb)
 clear hb HI4
 have hba:zB W5.heap.size W5 (W5.alloc (.cells #[] 25)):=(zM _ W5).alloc (zN _) _
 obtain⟨i1,i2,i3,i4,i5,i6,i7,i8⟩:=HI5.out.cells'
 obtain⟨j1,j2,j3,j4,j5,j6,j7,j8⟩:=(HI5.out.next hba).cells'
 clear hba
 go_wp2
 obtain⟨W6,hW6⟩:∃W6,W6=(W5.alloc (.cells #[] 25)).alloc (.cells #[St x1,St y1,St x2,St y2,St x3,St y3,St x4,St y4] 25):=⟨_,rfl⟩
 rw[<-hW6]
 clear i1 i2 i3 i4 i5 i6 i7 i8 j1 j2 j3 j4 j5 j6 j7 j8
 have hS6:LineS w x1 y1 x2 y2 x3 y3 x4 y4 (W5.heap.size+1) X Y (some ⟨W5.heap.size,0,none⟩) 0 0 [] W6:=by
  have h5:=HI5.out
  have hl:=h5.lt
  have hb:zB W5.heap.size W5 ((W5.alloc (.cells #[] 25)).alloc (.cells #[St x1,St y1,St x2,St y2,St x3,St y3,St x4,St y4] 25)):=((zM _ W5).alloc (zN _) _).alloc (by simp) _
  have hn:=zG (W5.alloc (.cells #[] 25)) (.cells #[St x1,St y1,St x2,St y2,St x3,St y3,St x4,St y4] 25)
  rw[World.size_alloc] at hn
  rw[hW6]
  refine⟨h5.next hb,by have:=h5.lt;omega,λk hk=>?_,(World.ownsRow_made W5 #[] 0 (show w.heap.size+4<=W5.heap.size by omega) (by decide) rfl).alloc _,rfl,?_⟩
  ·rw[zJ hn,zJ hn]
   exact hX.out k hk
  ·intro e;have e2:=Option.some.inj e;have e3:W5.heap.size=W5.heap.size+1:=e2;omega
 have HS6:=hid hS6
 clear hS6 hW6 HI5
 generalize W5.heap.size+1=E at*
 go_loopw [13,15] (λv i wr=>∃(k:Nat) (q:Option Addr) (c:Nat),k<=4/\i=.int .i64 (k:Int)/\v=.slice q (accT (λk=>o1 k&&o2 k) (λk=>(X k,Y k)) k).length c/\Hid (LineS w x1 y1 x2 y2 x3 y3 x4 y4 E X Y q (accT (λk=>o1 k&&o2 k) (λk=>(X k,Y k)) k).length c (accT (λk=>o1 k&&o2 k) (λk=>(X k,Y k)) k) wr))
  (λ_ i _=>4-(zL i).toNat)
 case atStart=>exact⟨0,_,0,by omega,rfl,rfl,HS6⟩
 case round=>
  obtain⟨k,q,c,hk,rfl,rfl,hS⟩:=hrel
  clear HS6
  by_cases hlt:k<4
  ·obtain⟨e0,e1⟩:=hS.out.ends k hlt
   have C1:=hid (O1.out k hlt);have C2:=hid (O2.out k hlt);have C3:=hid (U1.out k hlt);have C4:=hid (U2.out k hlt)
   have ha:=zg1 (λk=>o1 k&&o2 k) (λk=>(X k,Y k)) k
   have HA:=hid ha;clear ha
   obtain⟨acc,hacc⟩:∃acc,acc=accT (λk=>o1 k&&o2 k) (λk=>(X k,Y k)) k:=⟨_,rfl⟩
   have hal:acc.length<=4:=by rw[hacc];exact Nat.le_trans (zse _ _ k) hk
   rw[<-hacc] at hS HA⊢
   have HACC:=hid hacc;clear hacc
   generalize X k=x at*
   generalize Y k=y at*
   generalize o1 k=b1 at*
   generalize o2 k=b2 at*
   have hba:zB wr.heap.size wr (wr.alloc (.cells #[St x,St y] 25)):=(zM _ wr).alloc (zN _) _
   have hx0:(wr.alloc (.cells #[St x,St y] 25)).heap[wr.heap.size]? =some (.cells #[St x,St y] 25 (0,0)):=zG _ _
   have R1:=hid (⟨hS.out.next hba,hx0⟩:RndS w x1 y1 x2 y2 x3 y3 x4 y4 E X Y q acc.length c acc wr.heap.size x y (wr.alloc (.cells #[St x,St y] 25)))
   obtain⟨i1,i2,i3,i4,i5,i6,i7,i8⟩:=R1.out.line.four.cells'
   clear hba hx0
   go_wp2_with fail
   clear i1 i2 i3 i4 i5 i6 i7 i8 e0 e1
   refine(C1.out _ (HW.out.below R1.out.bel)).mono ?_
   rintro e w2 ⟨rfl,hb2⟩
   have R2:=hid (R1.out.next hb2)
   clear hb2 R1 C1
   generalize wr.heap.size=B at*
   cases b1
   case false=>
    go_wp2_with fail
    go_roundw
    case rel=>exact⟨k+1,q,c,by omega,by go_num,by rw[HA.out,if_neg (by simp)],by rw[HA.out,if_neg (by simp)];exact hid R2.out.line⟩
    case measure=>simp[zL];omega
   obtain⟨i1,i2,i3,i4,i5,i6,i7,i8⟩:=R2.out.line.four.cells'
   obtain⟨e0,e1⟩:=R2.out.cx
   go_wp2_with fail
   clear i1 i2 i3 i4 i5 i6 i7 i8 e0 e1
   refine(C2.out _ (HW.out.below R2.out.bel)).mono ?_
   rintro e w3 ⟨rfl,hb3⟩
   have R3:=hid (R2.out.next hb3)
   clear hb3 R2 C2
   cases b2
   case false=>
    go_wp2_with fail
    go_roundw
    case rel=>exact⟨k+1,q,c,by omega,by go_num,by rw[HA.out,if_neg (by simp)],by rw[HA.out,if_neg (by simp)];exact hid R3.out.line⟩
    case measure=>simp[zL];omega
   obtain⟨i1,i2,i3,i4,i5,i6,i7,i8⟩:=R3.out.line.four.cells'
   obtain⟨e0,e1⟩:=R3.out.cx
   go_wp2_with fail
   clear i1 i2 i3 i4 i5 i6 i7 i8 e0 e1
   refine(C3.out _ (HW.out.below R3.out.bel)).mono ?_
   rintro e w4 ⟨rfl,hb4⟩
   have R4:=hid (R3.out.next hb4)
   clear hb4 R3 C3
   obtain⟨i1,i2,i3,i4,i5,i6,i7,i8⟩:=R4.out.line.four.cells'
   obtain⟨e0,e1⟩:=R4.out.cx
   go_wp2_with fail
   clear i1 i2 i3 i4 i5 i6 i7 i8 e0 e1
   refine(C4.out _ (HW.out.below R4.out.bel)).mono ?_
   rintro e w5 ⟨rfl,hb5⟩
   have R5:=hid (R4.out.next hb5)
   clear hb5 R4 C4
   go_wp2
   go_loopw [17,18] (λv i wr=>∃(j:Nat),j<=acc.length/\i=.int .i64 (j:Int)/\v=.bool ((acc.take j).contains (x,y))/\Hid (RndS w x1 y1 x2 y2 x3 y3 x4 y4 E X Y q acc.length c acc B x y wr))
    (λ_ i _=>acc.length-(zL i).toNat)
   case atStart=>exact⟨0,zR _,rfl,by simp,R5⟩
   case round=>
    obtain⟨j,hj,rfl,rfl,hR⟩:=hrel
    clear R5
    by_cases hjl:j<acc.length
    ·have HT:=hid (z0f acc (x,y) j hjl)
     obtain⟨g,rfl,g0,g1⟩:=hR.out.line.at j hjl
     obtain⟨e0,e1⟩:=hR.out.cx
     generalize ptOf acc j=pt at*
     obtain⟨px,py⟩:=pt
     generalize hC:(acc.take j).contains (x,y)=is at*
     have HC:=hid hC;clear hC
     dsimp only at g0 g1
     have hnx:∀n,RndS w x1 y1 x2 y2 x3 y3 x4 y4 E X Y (some ⟨g,0,none⟩) acc.length c acc B x y (wr.drewN n):=λn=>hR.out.next (zzD (zM _ _) _)
     have HNX:=hid hnx;clear hnx
     cases is
     case true=>
      go_wp2_with fail
      go_quiet (fail)
      go_wp2_with fail
      go_roundw
      case rel=>exact⟨j+1,by omega,by go_num,by rw[HT.out];rfl,hid (HNX.out _)⟩
      case measure=>simp[zL];omega
     case false=>
      by_cases hx:px=x
      ·by_cases hy:py=y
       ·subst hx;subst hy
        go_wp2_with fail
        go_quiet (fail)
        go_wp2_with fail
        go_roundw
        case rel=>exact⟨j+1,by omega,by go_num,by rw[HT.out];simp,hid (HNX.out _)⟩
        case measure=>simp[zL];omega
       ·have HT2:=hid (decide_eq_false (λe=>hy (Prod.ext_iff.1 e).2):decide ((px,py)=(x,y))=false)
        subst hx
        go_wp2_with fail
        go_quiet (fail)
        go_wp2_with fail
        go_roundw
        case rel=>exact⟨j+1,by omega,by go_num,by rw[HT.out,HT2.out];rfl,hid (HNX.out _)⟩
        case measure=>simp[zL];omega
      ·have HT2:=hid (decide_eq_false (λe=>hx (Prod.ext_iff.1 e).1):decide ((px,py)=(x,y))=false)
       go_wp2_with fail
       go_quiet (fail)
       go_wp2_with fail
       go_roundw
       case rel=>exact⟨j+1,by omega,by go_num,by rw[HT.out,HT2.out];rfl,hid (HNX.out _)⟩
       case measure=>simp[zL];omega
    ·obtain rfl:acc.length=j:=by omega
     rw[List.take_length]
     generalize hC:acc.contains (x,y)=is at*
     cases is
     case true=>
      go_wp2_with fail
      go_roundw
      case rel=>exact⟨k+1,q,c,by omega,by go_num,by rw[HA.out,if_neg (by simp)],by rw[HA.out,if_neg (by simp)];exact hid hR.out.line⟩
      case measure=>simp[zL];omega
     case false=>
      obtain⟨i0,hi,hz0,hz1,hz2⟩:=info_parts z29
      obtain⟨e0,e1⟩:=hR.out.cx
      have HD:=hid (⟨hi,hz0,hz1,hz2⟩:_/\_/\_/\_)
      clear hi hz0 hz1 hz2
      have hba:zB wr.heap.size wr (wr.alloc (.cells #[St x,St y] 25)):=(zM _ wr).alloc (zN _) _
      have hla:=hR.out.line.next hba
      have HLA:=hid (⟨hla,(by have:=hla.four.lt;omega:w.heap.size+4<=(wr.alloc (.cells #[St x,St y] 25)).heap.size)⟩:_/\_)
      clear hba hla
      go_wp2_with (at_builtin;refine wpList_append_own_at _ rfl _ _ 22 rfl (w.heap.size+4) 25 i0 (.agg #[St [],St []]) 2 32 Tryz.underlying22 HD.out.1 HD.out.2.1 HD.out.2.2.1 HD.out.2.2.2 rfl (by decide) (.slice q acc.length c) acc.length (zhh acc) rfl HLA.out.1.own ⟨wr.heap.size,0,none⟩ 1 1 [St x,St y] rfl rfl (zoq _ _ _ _) (zm4 _ _) (by unfold maxLen;omega) (by omega) HLA.out.2 ?_)
      intro v' w1 hown' hgrow hnil hat
      obtain⟨q',c',rfl,hl'⟩:=HLA.out.1.grow (x:=(x,y)) hgrow hown' (by simpa using hat)
      have HL:=hid hl'
      clear hown' hgrow hnil hat hl' HLA
      go_wp2_with fail
      go_roundw
      case rel=>exact⟨k+1,q',c',by omega,by go_num,by rw[HA.out,if_pos (by simp)];simp,by rw[HA.out,if_pos (by simp),List.length_append];exact HL⟩
      case measure=>simp[zL];omega
  ·obtain rfl:4=k:=by omega
   have HB:=hid hS.out.four.bel
   clear hS
   generalize hr:(accT (λk=>o1 k&&o2 k) (λk=>(X k,Y k)) 4).length=r at*
   have HR:=hid hr;clear hr
   go_wp2_with fail
   go_ret
   exact⟨by rw[HR.out];rfl,HB.out⟩
def ChkP (w:zA) (l:List Pt) (e:Ending) (w':zA):Prop:=∃r:Int,e=.returned (.int .i64 r)/\(r=0↔zch l/\zbz l)/\zB w.heap.size w w'
theorem ChkP.yes {w w':zA} {l:List Pt} (h:zch l/\zbz l) (hb:zB w.heap.size w w'):ChkP w l (.returned (.int .i64 0)) w':=⟨0,rfl,⟨λ_=>h,λ_=>rfl⟩,hb⟩
theorem ChkP.no {w w':zA} {l:List Pt} {r:Int} (hr:r≠0) (h:¬(zch l/\zbz l)) (hb:zB w.heap.size w w'):ChkP w l (.returned (.int .i64 r)) w':=⟨r,rfl,⟨λk=>absurd k hr,λk=>absurd k h⟩,hb⟩
theorem zj8 (k n:Nat):(((k:Int)+1).tmod (n:Int))=(((k+1)%n:Nat):Int):=by
 rw[show((k:Int)+1)=((k+1:Nat):Int) by omega,Int.tmod_eq_emod_of_nonneg (by omega),<-Int.natCast_emod]
theorem zhi {p:Option Addr} {l:List Pt} {W:zA} (h:RowPts p l W) (k:Nat) (h0:0<l.length):∃b off,p=some ⟨b,off,none⟩/\W.cell? ⟨b,off+k%l.length*2,none⟩=some (St (numS (cor l k).x))/\W.cell? ⟨b,off+k%l.length*2+1,none⟩=some (St (numS (cor l k).y)):=by
 obtain⟨b,off,e,h1,h2⟩:=h (k%l.length) (zP _ h0)
 rw[zj4 l _ (zP _ h0),zt4] at h1 h2
 exact⟨b,off,e,h1,h2⟩
theorem zue {a b:Pt} (h:numS a.x=numS b.x/\numS a.y=numS b.y):a=b:=by
 obtain⟨a1,a2⟩:=a;obtain⟨b1,b2⟩:=b
 have h1:=zh0 h.1;have h2:=zh0 h.2
 simp at h1 h2;rw[h1,h2]
theorem zvs (n i k:Nat) (hik:i<k) (hk:k<n):(((k:Int)==(i:Int)+1)=true/\zea n i k=1)\/(((k:Int)==(i:Int)+1)=false/\((i:Int)==0)=false/\zea n i k=0)\/
 (((k:Int)==(i:Int)+1)=false/\((i:Int)==0)=true/\((k:Int)==(n:Int)-1)=true/\zea n i k=1)\/(((k:Int)==(i:Int)+1)=false/\((i:Int)==0)=true/\((k:Int)==(n:Int)-1)=false/\zea n i k=0):=by
 unfold zea
 by_cases h1:k=i+1
 ·exact .inl ⟨by rw[beq_iff_eq];omega,if_pos (.inl h1)⟩
 ·have b1:((k:Int)==(i:Int)+1)=false:=by rw[beq_eq_false_iff_ne];omega
  by_cases h2:i=0
  ·have b2:((i:Int)==0)=true:=by rw[beq_iff_eq];omega
   by_cases h3:k=n-1
   ·exact .inr (.inr (.inl ⟨b1,b2,by rw[beq_iff_eq];omega,if_pos (.inr ⟨h2,h3⟩)⟩))
   ·exact .inr (.inr (.inr ⟨b1,b2,by rw[beq_eq_false_iff_ne];omega,if_neg (λh=>h.elim h1 (λh=>h3 h.2))⟩))
  ·exact .inr (.inl ⟨b1,by rw[beq_eq_false_iff_ne];omega,if_neg (λh=>h.elim h1 (λh=>h2 h.1))⟩)
theorem ztl (p:Option Addr) (cap:Nat) (l:List Pt) (h3:3<=l.length) (hlen:l.length<=4096)
 (CP:Hid (∀k,k<l.length->qK 37 #[.agg #[St (numS (cor l k).x),St (numS (cor l k).y)]] (.int .i64 0)))
 (SG:Hid (∀i k,i<l.length->k<l.length->qK 44 #[.agg #[St (numS (cor l i).x),St (numS (cor l i).y)],.agg #[St (numS (cor l (i+1)).x),St (numS (cor l (i+1)).y)],.agg #[St (numS (cor l k).x),St (numS (cor l k).y)],.agg #[St (numS (cor l (k+1)).x),St (numS (cor l (k+1)).y)]] (.int .i64 (meet (cor l i) (cor l (i+1)) (cor l k) (cor l (k+1))))))
 (w:zA) (HW:Hid (Wd w)) (HP:Hid (RowPts p l w)):
 Calls zF 36 #[.slice p l.length cap] w (ChkP w l):=by
 obtain⟨n,hn⟩:∃n,n=l.length:=⟨_,rfl⟩
 obtain⟨b,off,rfl,_⟩:=zhi HP.out 0 (by omega)
 have hc:=λ(W:zA) (hb:zB w.heap.size w W) (k:Nat)=>zhi (HP.out.keep (zac hb)) k (by omega)
 have HC:Hid (∀W:zA,zB w.heap.size w W->∀k,W.cell? ⟨b,off+k%n*2,none⟩=some (St (numS (cor l k).x))/\W.cell? ⟨b,off+k%n*2+1,none⟩=some (St (numS (cor l k).y))):=hid λW hb k=>by
  obtain⟨b',off',e,h1,h2⟩:=hc W hb k
  obtain⟨rfl,rfl⟩:b=b'/\off=off':=by simpa using e
  rw[hn];exact⟨h1,h2⟩
 rw[<-hn] at h3 hlen⊢
 have HN:=hid hn;clear hn hc HP
 have hn1:decide ((4096:Int)<(n:Int))=false:=decide_eq_false (by omega)
 have hn2:decide ((n:Int)<3)=false:=decide_eq_false (by omega)
 go_enter Tryz.func36,Tryz.ntmps36
 go_wp2
 go_loopw [4] (λi wr=>∃(k:Nat),k<=n/\i=.int .i64 (k:Int)/\Hid (zB w.heap.size w wr))
  (λi _=>n-(zL i).toNat)
 case atStart=>exact⟨0,zR _,rfl,zM _ _⟩
 case round=>
  clear hn1 hn2
  obtain⟨k,hk,rfl,hB⟩:=hrel
  by_cases hlt:k<n
  ·obtain⟨c0,c1⟩:=HC.out wr hB.out k
   have hcp:=hid (CP.out k (by rw[<-HN.out];exact hlt) wr (HW.out.below hB.out))
   rw[zQ hlt] at c0 c1
   generalize numS (cor l k).x=x at*
   generalize numS (cor l k).y=y at*
   go_wp2_with fail
   refine hcp.out.mono ?_
   rintro e w2 ⟨rfl,hb2⟩
   have hB2:=hid (hB.out.trans (hb2.mono hB.out.size))
   clear hb2 hcp
   go_wp2_with fail
   go_roundw
   case rel=>exact⟨k+1,by omega,by go_num,hB2⟩
   case measure=>simp[zL];omega
  ·obtain rfl:n=k:=by omega
   have hB0:=hid hB.out
   clear hB CP
   go_wp2_with fail
   go_loopw [6] (λi wr=>∃(k:Nat),k<=n/\i=.int .i64 (k:Int)/\Hid (zB w.heap.size w wr)/\Hid (∀i,i<k->cor l i≠cor l (i+1)))
    (λi _=>n-(zL i).toNat)
   case atStart=>exact⟨0,zR _,rfl,hB0,λi h=>absurd h (by omega)⟩
   case round=>
    obtain⟨k,hk,rfl,hB,hS⟩:=hrel
    clear hB0
    by_cases hlt:k<n
    ·obtain⟨c0,c1⟩:=HC.out wr hB.out k
     obtain⟨d0,d1⟩:=HC.out wr hB.out (k+1)
     have ht:=zj8 k n
     have hn0:¬n=0:=by omega
     have hwr:IntKind.i64.wrap ((k:Int)+1)=(k:Int)+1:=zI _ ⟨by omega,by omega⟩
     have hkk:(k+1)%n<n:=zP _ (by omega)
     rw[zQ hlt] at c0 c1
     generalize (k+1)%n=k' at*
     have HSM:Hid (numS (cor l k).x=numS (cor l (k+1)).x/\numS (cor l k).y=numS (cor l (k+1)).y->cor l k=cor l (k+1)):=hid zue
     have HDF:Hid (cor l k=cor l (k+1)->numS (cor l k).x=numS (cor l (k+1)).x/\numS (cor l k).y=numS (cor l (k+1)).y):=hid λe=>by rw[e];exact⟨rfl,rfl⟩
     have HQ:=hid λm=>hB.out.trans ((zzD (zM _ wr) m).mono hB.out.size)
     generalize numS (cor l k).x=x at*
     generalize numS (cor l k).y=y at*
     generalize numS (cor l (k+1)).x=x' at*
     generalize numS (cor l (k+1)).y=y' at*
     by_cases hx:x=x'
     ·by_cases hy:y=y'
      ·subst hx;subst hy
       have HE:=hid (HSM.out ⟨rfl,rfl⟩)
       go_wp2_with fail
       go_quiet (fail)
       go_wp2_with fail
       go_ret
       exact ChkP.no (by decide) (λh=>h.1 k (by rw[<-HN.out];exact hlt) HE.out) (HQ.out _)
      ·have HE:=hid (λi (hi:i<k+1)=>(by
        by_cases e:i=k
        ·subst e;exact λe=>hy (HDF.out e).2
        ·exact hS.out i (by omega):cor l i≠cor l (i+1)))
       subst hx
       go_wp2_with fail
       go_quiet (fail)
       go_wp2_with fail
       go_roundw
       case rel=>exact⟨k+1,by omega,by go_num,hid (HQ.out _),HE⟩
       case measure=>simp[zL];omega
     ·have HE:=hid (λi (hi:i<k+1)=>(by
       by_cases e:i=k
       ·subst e;exact λe=>hx (HDF.out e).1
       ·exact hS.out i (by omega):cor l i≠cor l (i+1)))
      go_wp2_with fail
      go_quiet (fail)
      go_wp2_with fail
      go_roundw
      case rel=>exact⟨k+1,by omega,by go_num,hid (HQ.out _),HE⟩
      case measure=>simp[zL];omega
    ·obtain rfl:n=k:=by omega
     have hS0:=hid (λi hi=>hS.out i (by rw[HN.out];exact hi):zch l)
     have hB0:=hid hB.out
     clear hB hS
     go_wp2_with fail
     go_loopw [7] (λi wr=>∃(k:Nat),k<=n/\i=.int .i64 (k:Int)/\Hid (zB w.heap.size w wr)/\Hid (∀i k',i<k->i<k'->k'<l.length->okS2 l i k'))
      (λi _=>n-(zL i).toNat)
     case atStart=>exact⟨0,zR _,rfl,hB0,λi k' h=>absurd h (by omega)⟩
     case round=>
      obtain⟨i,hi,rfl,hB,hS⟩:=hrel
      clear hB0
      by_cases hin:i<n
      ·have hwr:IntKind.i64.wrap ((i:Int)+1)=(i:Int)+1:=zI _ ⟨by omega,by omega⟩
       go_wp2_with fail
       go_loopw [8] (λv wr=>∃(k:Nat),i<k/\k<=n/\v=.int .i64 (k:Int)/\Hid (zB w.heap.size w wr)/\Hid (∀k',i<k'->k'<k->okS2 l i k'))
        (λv _=>n-(zL v).toNat)
       case atStart=>exact⟨i+1,by omega,by omega,by go_num,hB,λk' h h2=>absurd h2 (by omega)⟩
       case round=>
        obtain⟨k,hik,hk,rfl,hB4,hS4⟩:=hrel
        by_cases hkn:k<n
        ·have ht:=zj8 i n;have ht2:=zj8 k n
         have hn0:¬n=0:=by omega
         have hwk:IntKind.i64.wrap ((k:Int)+1)=(k:Int)+1:=zI _ ⟨by omega,by omega⟩
         have hwn:IntKind.i64.wrap ((n:Int)-1)=(n:Int)-1:=zI _ ⟨by omega,by omega⟩
         have hi':(i+1)%n<n:=zP _ (by omega)
         have hk':(k+1)%n<n:=zP _ (by omega)
         have hcs:=HC.out
         have HCi:=hid λW h=>hcs W h i
         have HCj:=hid λW h=>hcs W h (i+1)
         have HCk:=hid λW h=>hcs W h k
         have HCm:=hid λW h=>hcs W h (k+1)
         rw[zQ hin] at HCi
         rw[zQ hkn] at HCk
         have HSG:=hid (SG.out i k (by rw[<-HN.out];exact hin) (by rw[<-HN.out];exact hkn))
         clear hcs
         generalize (i+1)%n=i' at*
         generalize (k+1)%n=k' at*
         generalize hm:meet (cor l i) (cor l (i+1)) (cor l k) (cor l (k+1))=m at*
         have HM:=hid (show meet (cor l i) (cor l (i+1)) (cor l k) (cor l (k+1))=m from hm);clear hm
         generalize numS (cor l i).x=xi at HCi HSG
         generalize numS (cor l i).y=yi at HCi HSG
         generalize numS (cor l (i+1)).x=xj at HCj HSG
         generalize numS (cor l (i+1)).y=yj at HCj HSG
         generalize numS (cor l k).x=xk at HCk HSG
         generalize numS (cor l k).y=yk at HCk HSG
         generalize numS (cor l (k+1)).x=xm at HCm HSG
         generalize numS (cor l (k+1)).y=ym at HCm HSG
         obtain⟨bv,hbv⟩:∃bv,(m !=zea n i k)=bv:=⟨_,rfl⟩
         have HO:Hid (bv=false->okS2 l i k):=hid λe=>by
          have h1:meet (cor l i) (cor l (i+1)) (cor l k) (cor l (k+1))=m:=HM.out
          rw[e] at hbv;unfold okS2;rw[h1,<-HN.out];simpa using hbv
         have HF:Hid (bv=true->¬okS2 l i k):=hid λe=>by
          have h1:meet (cor l i) (cor l (i+1)) (cor l k) (cor l (k+1))=m:=HM.out
          rw[e] at hbv;unfold okS2;rw[h1,<-HN.out];simpa using hbv
         clear HC SG HM
         rcases zvs n i k hik hkn with⟨f1,hv⟩|⟨f1,f2,hv⟩|⟨f1,f2,f3,hv⟩|⟨f1,f2,f3,hv⟩
         all_goals
          rw[hv] at hbv
          have HV:=hid hbv
          clear hbv
          go_wp2_with fail
          refine zbl (λ_ W=>zB w.heap.size w W) (by kernel_rfl) (by kernel_rfl) hB4.out.drew ?_
          refine qR (.slice (some ⟨b,off,none⟩) n cap) ?_
          try simp only[zzQ]
          refine qR (.int .i64 (i:Int)) ?_
          try simp only[zzQ]
          refine qR (.pointer (some ⟨b,off+i*2,none⟩)) ?_
          try simp only[zzQ]
          refine qR (.agg #[St xi,St yi]) ?_ (hy:=λf W' hf h=>by obtain⟨c0,c1⟩:=HCi.out _ h;go_simp)
          try simp only[zzQ]
          refine qR (.slice (some ⟨b,off,none⟩) n cap) ?_
          try simp only[zzQ]
          refine qR (.int .i64 (i:Int)) ?_
          try simp only[zzQ]
          refine qR (.int .i64 ((i:Int)+1)) ?_
          try simp only[zzQ]
          refine qR (.int .i64 (n:Int)) ?_
          try simp only[zzQ]
          refine qR (.int .i64 (i':Int)) ?_
          try simp only[zzQ]
          refine qR (.pointer (some ⟨b,off+i'*2,none⟩)) ?_
          try simp only[zzQ]
          refine qR (.agg #[St xj,St yj]) ?_ (hy:=λf W' hf h=>by obtain⟨c0,c1⟩:=HCj.out _ h;go_simp)
          try simp only[zzQ]
          refine qR (.slice (some ⟨b,off,none⟩) n cap) ?_
          try simp only[zzQ]
          refine qR (.int .i64 (k:Int)) ?_
          try simp only[zzQ]
          refine qR (.pointer (some ⟨b,off+k*2,none⟩)) ?_
          try simp only[zzQ]
          refine qR (.agg #[St xk,St yk]) ?_ (hy:=λf W' hf h=>by obtain⟨c0,c1⟩:=HCk.out _ h;go_simp)
          try simp only[zzQ]
          refine qR (.slice (some ⟨b,off,none⟩) n cap) ?_
          try simp only[zzQ]
          refine qR (.int .i64 (k:Int)) ?_
          try simp only[zzQ]
          refine qR (.int .i64 ((k:Int)+1)) ?_
          try simp only[zzQ]
          refine qR (.int .i64 (n:Int)) ?_
          try simp only[zzQ]
          refine qR (.int .i64 (k':Int)) ?_
          try simp only[zzQ]
          refine qR (.pointer (some ⟨b,off+k'*2,none⟩)) ?_
          try simp only[zzQ]
          refine qR (.agg #[St xm,St ym]) ?_ (hy:=λf W' hf h=>by obtain⟨c0,c1⟩:=HCm.out _ h;go_simp)
          try simp only[zzQ]
          refine zar (.int .i64 m) (by rfl) (λf W' hf h C' hC'=>by
           go_simp
           refine(HSG.out _ (HW.out.below h)).mono ?_
           rintro e w' ⟨rfl,hb⟩
           exact⟨rfl,hC' _ (h.trans (hb.mono h.size))⟩) ?_
          try simp only[zzQ]
          refine qR (.int .i64 (zea n i k)) ?_
          try simp only[zzQ]
          refine qR (.bool bv) ?_ (hy:=λf W' hf h=>by have h0:=HV.out;go_simp)
          try simp only[zzQ]
          refine zck λf W5 hf h5=>?_
          have HB5:=hid h5
          clear hf h5
          cases bv
          case false=>
           go_wp2_with fail
           go_roundw
           case rel=>exact⟨k+1,by omega,by omega,by go_num,HB5,λk' h1 h2=>(by
            by_cases e:k'=k
            ·subst e;exact HO.out (by trivial)
            ·exact hS4.out k' h1 (by omega))⟩
           case measure=>simp[zL];omega
          case true=>
           go_wp2_with fail
           go_ret
           exact ChkP.no (by decide) (λh=>HF.out (by trivial) (h.2 i k hik (by rw[<-HN.out];exact hkn))) HB5.out
        ·obtain rfl:n=k:=by omega
         go_wp2_with fail
         go_roundw
         case rel=>exact⟨i+1,by omega,by go_num,hB4,λi' k' h1 h2 h3=>(by
          by_cases e:i'=i
          ·subst e;exact hS4.out k' h2 (by rw[HN.out];exact h3)
          ·exact hS.out i' k' (by omega) h2 h3)⟩
         case measure=>simp[zL];omega
      ·obtain rfl:n=i:=by omega
       have hS1:=hid (λi k h1 h2=>hS.out i k (by rw[HN.out];omega) h1 h2:zbz l)
       go_wp2_with fail
       go_ret
       exact ChkP.yes ⟨hS0.out,hS1.out⟩ hB.out
end
section
open Go.RowKit Go.Shelf Lib Str Limb Geo
def endP (a b c d:Pt) (k:Nat):Pt:=[a,b,c,d][k]?.getD a
theorem z0g {p q:Pt}:((numS p.x,numS p.y)=(numS q.x,numS q.y))↔p=q:=⟨λh=>zue ⟨(Prod.ext_iff.1 h).1,(Prod.ext_iff.1 h).2⟩,λh=>by rw[h]⟩
theorem z2f (l:List Pt) (p:Pt):(txt l).contains (numS p.x,numS p.y)=l.contains p:=by
 unfold txt
 rw[List.contains_eq_mem,List.contains_eq_mem,decide_eq_decide,List.mem_map]
 exact⟨λ⟨q,hq,e⟩=>z0g.1 e▸hq,λh=>⟨p,h,rfl⟩⟩
theorem z0h (P:Pt->Bool) (a b c d:Pt):(accT (λk=>P (endP a b c d k)) (λk=>(numS (endP a b c d k).x,numS (endP a b c d k).y)) 4).length=(uniq P [] [a,b,c,d]).length:=by
 have step:∀(acc:List Pt) (p:Pt),(if(P p&&!(txt acc).contains (numS p.x,numS p.y))=true then txt acc++[(numS p.x,numS p.y)] else txt acc)=txt (if(P p&&!acc.contains p)=true then acc++[p] else acc):=by
  intro acc p
  rw[z2f]
  split
  ·unfold txt;simp
  ·rfl
 have e:accT (λk=>P (endP a b c d k)) (λk=>(numS (endP a b c d k).x,numS (endP a b c d k).y)) 4=txt (uniq P [] [a,b,c,d]):=by
  rw[zg1,zg1,zg1,zg1]
  simp only[uniq]
  rw[show accT (λk=>P (endP a b c d k)) (λk=>(numS (endP a b c d k).x,numS (endP a b c d k).y)) 0=txt [] from rfl]
  rw[show endP a b c d 0=a from rfl,show endP a b c d 1=b from rfl,show endP a b c d 2=c from rfl,show endP a b c d 3=d from rfl]
  rw[step,step,step,step]
 rw[e,za2]
theorem z2g (a b c d:Pt) (k:Nat) (hk:0<k) (hk2:8*k+4<=300) (ha:szP a k) (hb:szP b k) (hc:szP c k) (hd:szP d k) (w:zA) (hw:Wd w):
 qJ 44 #[ptV a,ptV b,ptV c,ptV d] w (.int .i64 (meet a b c d)):=by
 by_cases h0:turn a b c=0/\turn a b d=0/\turn c d a=0/\turn c d b=0
 ·obtain⟨t1,t2,t3,t4⟩:=h0
  have he:∀j,j<4->szP (endP a b c d j) k/\turn a b (endP a b c d j)=0/\turn c d (endP a b c d j)=0:=by
   intro j hj
   match j,hj with
   |0,_=>exact⟨ha,zcz _ _,t3⟩
   |1,_=>exact⟨hb,zc8 _ _,t4⟩
   |2,_=>exact⟨hc,t1,zcz _ _⟩
   |3,_=>exact⟨hd,t2,zc8 _ _⟩
  have T:∀p q r:Pt,szP p k->szP q k->szP r k->turn p q r=0->qK 38 #[ptV p,ptV q,ptV r] (.int .i64 0):=λp q r hp hq hr h W hW=>by
   rw[<-h];exact zh8 p q r k hk hk2 hp hq hr W hW
  have hv:meet a b c d=min 2 ((accT (λk=>onB a b (endP a b c d k)&&onB c d (endP a b c d k)) (λk=>(numS (endP a b c d k).x,numS (endP a b c d k).y)) 4).length:Int):=by
   rw[z0h (λp=>onB a b p&&onB c d p),<-zmd]
   unfold znt
   rw[if_pos ⟨t1,t2,t3,t4⟩]
   congr 3
   have:∀(l acc:List Pt),(∀p∈l,turn a b p=0/\turn c d p=0)->uniq (λx=>decide (onR a b x)&&decide (onR c d x)&&decide (turn a b x=0)&&decide (turn c d x=0)) acc l=uniq (λp=>onB a b p&&onB c d p) acc l:=by
    intro l
    induction l with
    |nil=>intro acc _;rfl
    |cons x r ih=>
     intro acc h
     obtain⟨z1,z2⟩:=h x (by simp)
     have e1:onB a b x=decide (onR a b x):=by rw[Bool.eq_iff_iff,zoo,decide_eq_true_iff]
     have e2:onB c d x=decide (onR c d x):=by rw[Bool.eq_iff_iff,zoo,decide_eq_true_iff]
     rw[uniq,uniq,ih _ (λp hp=>h p (by simp[hp]))]
     simp only[e1,e2,z1,z2,decide_true,Bool.and_true]
   refine this _ _ λp hp=>?_
   simp at hp
   rcases hp with rfl|rfl|rfl|rfl
   ·exact(he 0 (by omega)).2
   ·exact(he 1 (by omega)).2
   ·exact(he 2 (by omega)).2
   ·exact(he 3 (by omega)).2
  rw[hv]
  exact zor _ _ _ _ _ _ _ _ (λk=>numS (endP a b c d k).x) (λk=>numS (endP a b c d k).y) (λk=>onB a b (endP a b c d k)) (λk=>onB c d (endP a b c d k))
   (hid λj hj=>by
     match j,hj with
     |0,_|1,_|2,_|3,_=>exact⟨rfl,rfl⟩)
   (hid λW hW=>T a b c ha hb hc t1 W hW) (hid λW hW=>T a b d ha hb hd t2 W hW) (hid λW hW=>T c d a hc hd ha t3 W hW) (hid λW hW=>T c d b hc hd hb t4 W hW)
   (hid λj hj W hW=>zjm a b (endP a b c d j) k hk hk2 ha hb (he j hj).1 W hW) (hid λj hj W hW=>zjm c d (endP a b c d j) k hk hk2 hc hd (he j hj).1 W hW)
   (hid λj hj W hW=>T a b (endP a b c d j) ha hb (he j hj).1 (he j hj).2.1 W hW) (hid λj hj W hW=>T c d (endP a b c d j) hc hd (he j hj).1 (he j hj).2.2 W hW) w (hid hw)
 ·exact z0a a b c d k hk hk2 ha hb hc hd h0 w hw
theorem zyb (p:Option Addr) (cap:Nat) (l:List Pt) (h3:3<=l.length) (hlen:l.length<=4096) (hz:∀i,szP (cor l i) 36) (w:zA) (hw:Wd w) (hp:RowPts p l w):
 Calls zF 36 #[.slice p l.length cap] w (ChkP w l):=
 ztl p cap l h3 hlen (hid λk _ W hW=>zx1 (cor l k) (hz k) W hW) (hid λi k _ _ W hW=>z2g _ _ _ _ 36 (by omega) (by omega) (hz _) (hz _) (hz _) (hz _) W hW) w (hid hw) (hid hp)
end
end Go.Proofs.YthfpmfdiamldoaaGreatDoor
