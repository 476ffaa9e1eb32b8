/- surd.gatherer.add: the first term. -/
import Derived.Test.YthfpmfdiamldoaaGreatDoorG22
set_option maxRecDepth 100000
set_option maxHeartbeats 8000000
open Go renaming World → zA, Calls → zC
open Go.RowKit renaming Below → zB
open Go.Lib renaming decDigits → zD
open Go.Proofs.Tryz renaming prog → zF
open Go.World renaming alloc_heap_new → zG
open Go.Joins renaming cell_of_block → zJ, block_setCell → zK
open Go.RowKit.Below renaming refl → zM
open Nat renaming le_refl → zN, le_trans → zO
namespace Go.Proofs.YthfpmfdiamldoaaGreatDoor
section
open Go.RowKit Go.Shelf Lib Str Limb
attribute [local go_sem] Oper.semAt_some
theorem zx5:(Tryz.prog.info? 174).map (λi=>(i.zero,i.size,i.bytes))=some (some (.agg #[St [],St []]),2,32):=by kernel_rfl
structure GateS (gb:Nat) (x:List UInt8) (W:zA):Prop where
 cls:∃cb cap cs,W.cell? ⟨gb,0,none⟩=some (.slice (some ⟨cb,0,none⟩) 1 cap)/\gb<cb/\W.heap[cb]? =some (.cells cs 174 (0,0))/\cs[0]? =some (St x)/\cs[1]? =some (St [49])
 fr:W.frozen? ⟨gb,0,none⟩=false
structure AddS (W:zA) (x:List UInt8) (gb base:Nat) (b:Nat×Value) (f:Nat->Bool) (X:zA):Prop where
 pre:f 11=false->qL W X
 new:f 11=false->f 10=true->X.cell? ⟨b.1,0,none⟩=some (St x)/\X.cell? ⟨b.1,1,none⟩=some (.string ⟨#[49]⟩)
 post:f 11=true->∃Y Z,qL W Y/\Y.grownBy Z none/\Z.ownsRow base 174 2 b.2 1 [St x,.string ⟨#[49]⟩]/\X=if f 14=true then Z.setCell ⟨gb,0,none⟩ b.2 else Z
theorem AddS.congr {W:zA} {x:List UInt8} {gb base:Nat} {b:Nat×Value} {f g:Nat->Bool} {X:zA} (h:AddS W x gb base b f X) (e10:g 10=f 10) (e11:g 11=f 11) (e14:g 14=f 14):AddS W x gb base b g X:=
 ⟨by rw[e11];exact h.pre,by rw[e10,e11];exact h.new,by rw[e11,e14];exact h.post⟩
theorem zqj (gb:Nat) (x:List UInt8) (w:zA) (hg:w.cell? ⟨gb,0,none⟩=some (.slice none 0 0)) (hf:w.frozen? ⟨gb,0,none⟩=false):
 zC zF 138 #[.pointer (some ⟨gb,0,none⟩),.agg #[St x,.string ⟨#[49]⟩]] w λe w'=>e=.returned (.int .i64 0)/\zB gb w w'/\GateS gb x w':=by
 obtain⟨i0,hi,hz0,hz1,hz2⟩:=info_parts zx5
 have hlt:=zbe hg
 obtain⟨W1,hW1⟩:∃W1,W1=w.alloc (.cells #[St x,.string ⟨#[49]⟩] 57):=⟨_,rfl⟩
 have hb1:qL w W1:=by rw[hW1];exact(zM _ w).alloc (zN _) _
 have A1:W1.heap[w.heap.size]? =some (.cells #[St x,.string ⟨#[49]⟩] 57 (0,0)):=by rw[hW1];exact zG w _
 have g1:=zai hb1 hg
 have f1:=(zac hb1).frozen hg hf
 have hz:W1.heap.size=w.heap.size+1:=by rw[hW1];simp
 have g2:=g1
 rw[hW1] at g2
 have HW1:=hid hW1
 clear hW1
 go_enter Tryz.func138,Tryz.ntmps138
 go_wp2_with fail
 refine wp_loop_rounds 1 ?_
 rw[rounds_succ]
 go_wp2_with fail
 have h9:=HW1.out
 rw[<-show W1=w.alloc (.cells #[St x,.string ⟨#[49]⟩] 57) from h9]
 have hks:∀w':zA,qL W1 w'->w'.cell? ⟨gb,0,none⟩=some (.slice none 0 0)/\w'.cell? ⟨w.heap.size,0,none⟩=some (St x)/\w'.cell? ⟨w.heap.size,1,none⟩=some (.string ⟨#[49]⟩):=λw' hb=>
  ⟨zai hb g1,zai hb (by rw[zJ A1];rfl),zai hb (by rw[zJ A1];rfl)⟩
 have KS:=hid hks
 have HF:=hid f1
 have HG:=hid g1
 have HB1:=hid hb1
 clear hks h9 g2 A1 f1 g1 hb1 hf hg
 refine zc4 (λ(b:Nat×Value) i=>([.pointer (some ⟨gb,0,none⟩),.pointer (some ⟨gb,0,none⟩),.pointer (some ⟨gb,0,none⟩),.pointer (some ⟨gb,0,none⟩),.slice none 0 0,.pointer (some ⟨w.heap.size,0,none⟩),St x,.pointer (some ⟨w.heap.size,1,none⟩),.string ⟨#[49]⟩,.agg #[St x,.string ⟨#[49]⟩],.slice (some ⟨b.1,0,none⟩) 1 1,b.2,.pointer (some ⟨gb,0,none⟩),.pointer (some ⟨gb,0,none⟩)]:List Value).getD i undef) (AddS W1 x gb (w.heap.size+1)) (by kernel_rfl) (by kernel_rfl) (0,.slice none 0 0) ⟨λ_=>(zM _ W1).drew,λ_ h=>(by cases h),λh=>(by cases h)⟩ λb=>?_
 refine qB (.pointer (some ⟨gb,0,none⟩)) (λf W' h=>h.congr rfl rfl rfl) ?_
 simp only[zzQ]
 refine qB (.pointer (some ⟨gb,0,none⟩)) (λf W' h=>h.congr rfl rfl rfl) ?_
 simp only[zzQ]
 refine qB (.pointer (some ⟨gb,0,none⟩)) (λf W' h=>h.congr rfl rfl rfl) ?_
 simp only[zzQ]
 refine qB (.pointer (some ⟨gb,0,none⟩)) (λf W' h=>h.congr rfl rfl rfl) ?_
 simp only[zzQ]
 refine qB (.slice none 0 0) (λf W' h=>h.congr rfl rfl rfl) ?_ (hy:=λf W' hf h=>by have g:=KS.out _ (h.pre (hf.no (j:=11) hf.self (by kernel_rfl)));obtain⟨q0,q1,q2⟩:=g;go_simp)
 simp only[zzQ]
 refine qB (.pointer (some ⟨w.heap.size,0,none⟩)) (λf W' h=>h.congr rfl rfl rfl) ?_
 simp only[zzQ]
 refine qB (St x) (λf W' h=>h.congr rfl rfl rfl) ?_ (hy:=λf W' hf h=>by have g:=KS.out _ (h.pre (hf.no (j:=11) (hf.no (j:=10) (hf.no (j:=9) hf.self (by kernel_rfl)) (by kernel_rfl)) (by kernel_rfl)));obtain⟨q0,q1,q2⟩:=g;go_simp)
 simp only[zzQ]
 refine qB (.pointer (some ⟨w.heap.size,1,none⟩)) (λf W' h=>h.congr rfl rfl rfl) ?_
 simp only[zzQ]
 refine qB (.string ⟨#[49]⟩) (λf W' h=>h.congr rfl rfl rfl) ?_ (hy:=λf W' hf h=>by have g:=KS.out _ (h.pre (hf.no (j:=11) (hf.no (j:=10) (hf.no (j:=9) hf.self (by kernel_rfl)) (by kernel_rfl)) (by kernel_rfl)));obtain⟨q0,q1,q2⟩:=g;go_simp)
 simp only[zzQ]
 refine qB (.agg #[St x,.string ⟨#[49]⟩]) (λf W' h=>h.congr rfl rfl rfl) ?_
 simp only[zzQ]
 refine zdc (.slice (some ⟨b.1,0,none⟩) 1 1) (by rfl) (by rfl) (λf W' hf h C' hC'=>by
  have h11:=(hf.no (j:=11) hf.self (by kernel_rfl))
  have hp:=h.pre h11
  have ha:qL W' (W'.alloc (.cells #[St x,.string ⟨#[49]⟩] 174)):=(zM _ W').alloc (zN _) _
  have A:=zG W' (.cells #[St x,.string ⟨#[49]⟩] 174)
  have:=hC' (W'.heap.size,b.2) (W'.alloc (.cells #[St x,.string ⟨#[49]⟩] 174)) (λi hi=>?_) ⟨λ_=>hp.trans (ha.mono hp.size),λ_ _=>⟨by rw[zJ A];rfl,by rw[zJ A];rfl⟩,λk=>(by have k':f 11=true:=k;rw[h11] at k';cases k')⟩
  ·go_simp
   exact this
  ·match i,hi with
   |0,_|1,_|2,_|3,_|4,_|5,_|6,_|7,_|8,_|9,_|11,_|12,_|13,_=>rfl
   |10,hi=>rw[hf.self] at hi;cases hi
   |_+14,_=>rfl) ?_
 try simp only[zzQ]
 refine zdc b.2 (by rfl) (by rfl) (λf W' hf h C' hC'=>by
  have h11:=hf.self
  have h14:=(hf.no (j:=14) hf.self (by kernel_rfl))
  have h10:=hf.done 10 (by kernel_rfl)
  have hp:=h.pre h11
  obtain⟨n0,n1⟩:=h.new h11 h10
  refine zmb _ W' _ _ 168 rfl (w.heap.size+1) 174 i0 (.agg #[St [],St []]) 2 32 Tryz.underlying168 hi hz0 hz1 hz2 rfl (by decide) (.slice none 0 0) 0 [] rfl (World.ownsRow_nil _ _ _ _) ⟨b.1,0,none⟩ 1 1 [St x,.string ⟨#[49]⟩] rfl rfl (λi u hu=>?_) (λu hu=>?_) (by unfold maxLen;omega) (by omega) (by have:=hp.size;omega) (λv' w' hown' hgrow=>?_)
  ·match i,hu with
   |0,hu=>simp at hu;subst hu;exact n0
   |1,hu=>simp at hu;subst hu;exact n1
   |_+2,hu=>simp at hu
  ·simp at hu;rcases hu with rfl|rfl<;>rfl
  ·refine hC' (b.1,v') w' (λi hi=>?_) ⟨λk=>?_,λk=>?_,λ_=>⟨W',w',hp,hgrow,hown',?_⟩⟩
   ·match i,hi with
    |0,_|1,_|2,_|3,_|4,_|5,_|6,_|7,_|8,_|9,_|10,_|12,_|13,_=>rfl
    |11,hi=>rw[hf.self] at hi;cases hi
    |_+14,_=>rfl
   ·cases k
   ·cases k
   ·show w'=if f 14=true then _ else w'
    rw[h14];rfl) ?_
 try simp only[zzQ]
 refine qB (.pointer (some ⟨gb,0,none⟩)) (λf W' h=>h.congr rfl rfl rfl) ?_
 simp only[zzQ]
 refine qB (.pointer (some ⟨gb,0,none⟩)) (λf W' h=>h.congr rfl rfl rfl) ?_
 simp only[zzQ]
 refine zbv undef (by rfl) (by rfl) (λf W' hf h C' hC'=>by
  have h11:=hf.done 11 (by kernel_rfl)
  have h14:=hf.self
  obtain⟨Y,Z,hY,hZ,hz',rfl⟩:=h.post h11
  rw[h14,if_neg (by simp)] at*
  have hcell:=hZ.cell (zai hY HG.out) (by simp)
  have hfr:Z.frozen? ⟨gb,0,none⟩=false:=by
   rw[World.frozen?_of_block (a:=⟨gb,0,none⟩) (hZ.block _ (zbe (zai hY HG.out)) (by simp))];exact(zac hY).frozen HG.out HF.out
  have:=hC' (Z.setCell ⟨gb,0,none⟩ b.2) ⟨λk=>(by have k':f 11=false:=k;rw[h11] at k';cases k'),λk=>(by have k':f 11=false:=k;rw[h11] at k';cases k'),λ_=>⟨Y,Z,hY,hZ,hz',rfl⟩⟩
  obtain⟨q,m,c,e2⟩:∃q m c,b.2=.slice q m c:=by
   rcases hz'.2 with⟨e,_⟩|⟨g,cp,cur,e,_⟩<;>exact⟨_,_,_,e⟩
  rw[e2] at this
  go_simp
  exact this) ?_
 try simp only[Act.put]
 refine ze1 λf X hf h=>?_
 obtain⟨Y,Z,hY,hZ,hz',rfl⟩:=h.post (hf 11 (by decide))
 rw[if_pos (hf 14 (by decide))]
 have hcell:=hZ.cell (zai hY HG.out) (by simp)
 have hfr:Z.frozen? ⟨gb,0,none⟩=false:=by
  rw[World.frozen?_of_block (a:=⟨gb,0,none⟩) (hZ.block _ (zbe (zai hY HG.out)) (by simp))];exact(zac hY).frozen HG.out HF.out
 have hbel:zB gb w (Z.setCell ⟨gb,0,none⟩ b.2):=by
  have h1:zB gb w Y:=(HB1.out.mono (by omega)).trans (hY.mono (by omega))
  exact(h1.grown hZ (by have:=hY.size;omega) (λq e=>by cases e)).setCell (by simp) _
 have hgate:GateS gb x (Z.setCell ⟨gb,0,none⟩ b.2):=by
  refine⟨?_,by rw[World.frozen?_setCell];exact hfr⟩
  rcases hz'.2 with⟨_,e⟩|⟨g,cp,cur,e,hg1,hg2,_,_,hcs,htk⟩
  ·omega
  ·refine⟨g,cp,cur,by rw[<-e];exact za9 hcell,by omega,by rw[Below.heap_setCell _ _ _ _ (by simp;omega)];exact hg2,?_,?_⟩
   ·have h0:=congrArg (λl=>l[0]?) htk
    rw[List.getElem?_take] at h0
    simpa using h0
   ·have h0:=congrArg (λl=>l[1]?) htk
    rw[List.getElem?_take] at h0
    simpa using h0
 have HE:=hid (⟨hbel,hgate⟩:zB gb w (Z.setCell ⟨gb,0,none⟩ b.2)/\GateS gb x (Z.setCell ⟨gb,0,none⟩ b.2))
 clear hbel hgate hcell hfr hY hZ hz' h hf
 go_wp2_with fail
 go_ret
 exact⟨rfl,HE.out⟩
structure NextS (w:zA) (x y:List UInt8) (W:zA):Prop where
 bel:qL w W
 tm:W.heap[w.heap.size]? =some (.cells #[St y,.string ⟨#[49]⟩] 57 (0,0))
 lo:W.heap[w.heap.size+1]? =some (.cells #[St x,.string ⟨#[49]⟩] 174 (0,0))
theorem NextS.next {w:zA} {x y:List UInt8} {W W':zA} (h:NextS w x y W) (hb:qL W W'):NextS w x y W':=
 ⟨h.bel.trans (hb.mono h.bel.size),zac hb _ _ _ _ h.tm,zac hb _ _ _ _ h.lo⟩
theorem NextS.cells {w:zA} {x y:List UInt8} {W:zA} (h:NextS w x y W):
 W.cell? ⟨w.heap.size,0,none⟩=some (St y)/\W.cell? ⟨w.heap.size,1,none⟩=some (.string ⟨#[49]⟩)/\W.cell? ⟨w.heap.size+1,0,none⟩=some (St x)/\W.cell? ⟨w.heap.size+1,1,none⟩=some (.string ⟨#[49]⟩):=
 ⟨by rw[zJ h.tm];rfl,by rw[zJ h.tm];rfl,by rw[zJ h.lo];rfl,by rw[zJ h.lo];rfl⟩
theorem zsa (gb cb cap:Nat) (cs:Array Value) (x y z:List UInt8) (w:zA) (HW:Hid (Wd w)) (hg:w.cell? ⟨gb,0,none⟩=some (.slice (some ⟨cb,0,none⟩) 1 cap)) (hgc:gb<cb) (hf':w.frozen? ⟨gb,0,none⟩=false)
 (hc:w.heap[cb]? =some (.cells cs 174 (0,0))) (hc0:cs[0]? =some (St x)) (hc1:cs[1]? =some (St [49]))
 (CM:Hid (qK 20 #[.string ⟨#[49]⟩,.string ⟨#[49]⟩] (.tuple #[.int .i64 0,.int .i64 0])))
 (P:Hid (qK 185 #[.agg #[St x,St [49]],.agg #[St y,St [49]]] (.tuple #[.agg #[St z,St [49]],.int .i64 0]))):
 zC zF 138 #[.pointer (some ⟨gb,0,none⟩),.agg #[St y,.string ⟨#[49]⟩]] w λe w'=>e=.returned (.int .i64 0)/\zB gb w w'/\GateS gb z w':=by
 have x0:w.cell? ⟨cb,0,none⟩=some (St x):=by rw[zJ hc];exact hc0
 have x1:w.cell? ⟨cb,1,none⟩=some (.string ⟨#[49]⟩):=by rw[zJ hc];exact hc1
 obtain⟨Wa,hWa⟩:∃Wa,Wa=w.alloc (.cells #[St y,.string ⟨#[49]⟩] 57):=⟨_,rfl⟩
 have ba:qL w Wa:=by rw[hWa];exact(zM _ w).alloc (zN _) _
 have Aa:Wa.heap[w.heap.size]? =some (.cells #[St y,.string ⟨#[49]⟩] 57 (0,0)):=by rw[hWa];exact zG w _
 have sa:Wa.heap.size=w.heap.size+1:=by rw[hWa];simp
 obtain⟨W1,hW1⟩:∃W1,W1=Wa.alloc (.cells #[St x,.string ⟨#[49]⟩] 174):=⟨_,rfl⟩
 have b1:qL Wa W1:=by rw[hW1];exact(zM _ Wa).alloc (zN _) _
 have A1:W1.heap[w.heap.size+1]? =some (.cells #[St x,.string ⟨#[49]⟩] 174 (0,0)):=by rw[hW1,<-sa];exact zG Wa _
 have hB1:qL w W1:=ba.trans (b1.mono (by omega))
 have g0:=zai ba hg
 have y0:Wa.cell? ⟨cb,0,none⟩=some (St x):=zai ba x0
 have y1:Wa.cell? ⟨cb,1,none⟩=some (.string ⟨#[49]⟩):=zai ba x1
 have K1:=hid (⟨hB1,zac b1 _ _ _ _ Aa,A1⟩:NextS w x y W1)
 have t0:W1.cell? ⟨w.heap.size,0,none⟩=some (St y):=by rw[zJ K1.out.tm];rfl
 have t1:W1.cell? ⟨w.heap.size,1,none⟩=some (.string ⟨#[49]⟩):=by rw[zJ K1.out.tm];rfl
 have l0:W1.cell? ⟨w.heap.size+1,0,none⟩=some (St x):=by rw[zJ A1];rfl
 have l1:W1.cell? ⟨w.heap.size+1,1,none⟩=some (.string ⟨#[49]⟩):=by rw[zJ A1];rfl
 rw[hW1] at t0 t1 l0 l1
 rw[hWa] at g0 y0 y1 t0 t1 l0 l1
 have HWa:=hid hWa;have HW1:=hid hW1
 clear hWa hW1 ba b1 Aa A1 hB1 x0 x1
 go_enter Tryz.func138,Tryz.ntmps138
 go_wp2_with fail
 refine wp_loop_rounds 1 ?_
 rw[rounds_succ]
 go_wp2_with fail
 have h9:=HW1.out
 rw[HWa.out] at h9
 have h8:W1=(w.alloc (.cells #[St y,.string ⟨#[49]⟩] 57)).alloc (.cells #[.string ⟨x.toArray⟩,.string ⟨#[49]⟩] 174):=h9
 rw[<-h8]
 clear h8 h9 t0 t1 l0 l1 g0 y0 y1 HWa HW1
 refine(zpl W1 (HW.out.below K1.out.bel)).mono ?_
 rintro e w2 ⟨rfl,hb2⟩
 have K2:=hid (K1.out.next hb2);clear hb2 K1
 obtain⟨t0,t1,l0,l1⟩:=K2.out.cells
 obtain⟨w3,hw3⟩:∃w3,w3=w2.alloc (.cells #[St y,.string ⟨#[49]⟩] 174):=⟨_,rfl⟩
 have b3:qL w2 w3:=by rw[hw3];exact(zM _ w2).alloc (zN _) _
 have A3:w3.heap[w2.heap.size]? =some (.cells #[St y,.string ⟨#[49]⟩] 174 (0,0)):=by rw[hw3];exact zG w2 _
 have K3:=hid (K2.out.next b3)
 have p1:w3.cell? ⟨w.heap.size+1,1,none⟩=some (.string ⟨#[49]⟩):=K3.out.cells.2.2.2
 have p2:w3.cell? ⟨w2.heap.size,1,none⟩=some (.string ⟨#[49]⟩):=by rw[zJ A3];rfl
 rw[hw3] at p1 p2
 have HA3:=hid A3
 have HW3:=hid hw3;clear hw3 b3 A3
 go_wp2_with fail
 have h8:w3=w2.alloc (.cells #[.string ⟨y.toArray⟩,.string ⟨#[49]⟩] 174):=HW3.out
 rw[<-h8]
 clear h8 t0 t1 l0 l1 p1 p2 HW3
 refine(CM.out w3 (HW.out.below K3.out.bel)).mono ?_
 rintro e w4 ⟨rfl,hb4⟩
 have K4:=hid (K3.out.next hb4)
 have HA4:=hid (zac hb4 _ _ _ _ HA3.out);clear hb4 K3 HA3
 obtain⟨-, -,l0,l1⟩:=K4.out.cells
 have p0:w4.cell? ⟨w2.heap.size,0,none⟩=some (St y):=by rw[zJ HA4.out];rfl
 have p1:w4.cell? ⟨w2.heap.size,1,none⟩=some (.string ⟨#[49]⟩):=by rw[zJ HA4.out];rfl
 go_wp2_with fail
 refine(P.out w4 (HW.out.below K4.out.bel)).mono ?_
 rintro e w5 ⟨rfl,hb5⟩
 have K5:=hid (K4.out.next hb5);clear hb5 K4 HA4 l0 l1 p0 p1
 obtain⟨w6,hw6⟩:∃w6,w6=w5.alloc (.cells #[St z,St [49]] 174):=⟨_,rfl⟩
 have b6:qL w5 w6:=by rw[hw6];exact(zM _ w5).alloc (zN _) _
 have A6:w6.heap[w5.heap.size]? =some (.cells #[St z,St [49]] 174 (0,0)):=by rw[hw6];exact zG w5 _
 have hB6:=K5.out.bel.trans (b6.mono K5.out.bel.size)
 have HW6:=hid hw6;clear hw6 b6
 go_wp2_with fail
 have h8:w6=w5.alloc (.cells #[.string ⟨z.toArray⟩,.string ⟨#[49]⟩] 174):=HW6.out
 rw[<-h8]
 clear h8 HW6
 have hcb:cb<w.heap.size:=(Array.getElem?_eq_some_iff.1 hc).1
 have m0:w6.drew.cell? ⟨gb,0,none⟩=some (.slice (some ⟨cb,0,none⟩) 1 cap):=zai hB6 hg
 have m1:w6.drew.heap[cb]? =some (.cells cs 174 (0,0)):=zac hB6 _ _ _ _ hc
 have m2:w6.drew.cell? ⟨cb,0,none⟩=some (St x):=by rw[zJ m1];exact hc0
 have m3:w6.drew.cell? ⟨cb,1,none⟩=some (St [49]):=by rw[zJ m1];exact hc1
 have m4:w6.drew.frozen? ⟨cb,0,none⟩=false:=Go.Joins.unfrozen_of_block m1 0
 have m5:w6.drew.frozen? ⟨cb,1,none⟩=false:=Go.Joins.unfrozen_of_block m1 1
 have m6:w6.drew.cell? ⟨w5.heap.size,0,none⟩=some (St z):=by rw[zJ (show w6.drew.heap[w5.heap.size]? =_ from A6)];rfl
 have m7:w6.drew.cell? ⟨w5.heap.size,1,none⟩=some (St [49]):=by rw[zJ (show w6.drew.heap[w5.heap.size]? =_ from A6)];rfl
 have n2:w6.cell? ⟨cb,0,none⟩=some (St x):=m2
 have n3:w6.cell? ⟨cb,1,none⟩=some (St [49]):=m3
 have n4:w6.frozen? ⟨cb,0,none⟩=false:=m4
 have n5:w6.frozen? ⟨cb,1,none⟩=false:=m5
 refine zc4 (λ(_:Unit) i=>([.pointer (some ⟨gb,0,none⟩),.pointer (some ⟨gb,0,none⟩),.pointer (some ⟨gb,0,none⟩),.slice (some ⟨cb,0,none⟩) 1 cap,.int .i64 0,.agg #[St z,St [49]],.pointer (some ⟨cb,0,none⟩)]:List Value).getD i undef) (λ_ f W'=>(f 7=false->W'=w6.drew)/\(f 7=true->W'=(w6.drew.setCell ⟨cb,0,none⟩ (St z)).setCell ⟨cb,1,none⟩ (St [49]))) (by kernel_rfl) (by kernel_rfl) () ⟨λ_=>rfl,λh=>(by cases h)⟩ λb=>?_
 refine qB (.pointer (some ⟨gb,0,none⟩)) (λf W' h=>⟨h.1,h.2⟩) ?_ (hy:=λf W' hf h=>by
  obtain rfl:=h.1 (hf.no (j:=7) hf.self (by kernel_rfl))
  go_simp)
 try simp only[zzQ]
 refine qB (.pointer (some ⟨gb,0,none⟩)) (λf W' h=>⟨h.1,h.2⟩) ?_ (hy:=λf W' hf h=>by
  obtain rfl:=h.1 (hf.no (j:=7) hf.self (by kernel_rfl))
  go_simp)
 try simp only[zzQ]
 refine qB (.pointer (some ⟨gb,0,none⟩)) (λf W' h=>⟨h.1,h.2⟩) ?_ (hy:=λf W' hf h=>by
  obtain rfl:=h.1 (hf.no (j:=7) hf.self (by kernel_rfl))
  go_simp)
 try simp only[zzQ]
 refine qB (.slice (some ⟨cb,0,none⟩) 1 cap) (λf W' h=>⟨h.1,h.2⟩) ?_ (hy:=λf W' hf h=>by
  obtain rfl:=h.1 (hf.no (j:=7) hf.self (by kernel_rfl))
  go_simp)
 try simp only[zzQ]
 refine qB (.int .i64 0) (λf W' h=>⟨h.1,h.2⟩) ?_ (hy:=λf W' hf h=>by
  obtain rfl:=h.1 (hf.no (j:=7) hf.self (by kernel_rfl))
  go_simp)
 try simp only[zzQ]
 refine qB (.agg #[St z,St [49]]) (λf W' h=>⟨h.1,h.2⟩) ?_ (hy:=λf W' hf h=>by
  obtain rfl:=h.1 (hf.no (j:=7) hf.self (by kernel_rfl))
  go_simp)
 try simp only[zzQ]
 refine qB (.pointer (some ⟨cb,0,none⟩)) (λf W' h=>⟨h.1,h.2⟩) ?_ (hy:=λf W' hf h=>by
  obtain rfl:=h.1 (hf.no (j:=7) hf.self (by kernel_rfl))
  go_simp)
 try simp only[zzQ]
 refine zbv undef (by rfl) (by rfl) (λf W' hf h C' hC'=>by
  obtain rfl:=h.1 hf.self
  have:=hC' ((w6.drew.setCell ⟨cb,0,none⟩ (St z)).setCell ⟨cb,1,none⟩ (St [49])) ⟨λk=>(by cases k),λ_=>rfl⟩
  go_simp
  exact this) ?_
 try simp only[Act.put]
 refine ze1 λf X hf h=>?_
 obtain rfl:=h.2 (hf 7 (by decide))
 have hblk:=zK (i:=1) (zK (i:=0) m1 (St z)) (St [49])
 have hbel:zB gb w ((w6.drew.setCell ⟨cb,0,none⟩ (St z)).setCell ⟨cb,1,none⟩ (St [49])):=
  (((hB6.mono (by omega)).drew).setCell (by simp;omega) _).setCell (by simp;omega) _
 have hgate:GateS gb z ((w6.drew.setCell ⟨cb,0,none⟩ (St z)).setCell ⟨cb,1,none⟩ (St [49])):=by
  have hs:1<cs.size:=by
   rcases Nat.lt_or_ge 1 cs.size with h|h
   ·exact h
   ·rw[Array.getElem?_eq_none h] at hc1;cases hc1
  refine⟨⟨cb,cap,_,by rw[zau _ _ _ _ (by omega),zau _ _ _ _ (by omega)];exact m0,hgc,hblk,?_,?_⟩,?_⟩
  ·rw[Array.getElem?_setIfInBounds,if_neg (by omega),Array.getElem?_setIfInBounds,if_pos rfl,if_pos (by omega)]
  ·rw[Array.getElem?_setIfInBounds,if_pos rfl,if_pos (by simpa using hs)]
  ·rw[World.frozen?_setCell,World.frozen?_setCell];exact(zac hB6).frozen hg hf'
 have HE:=hid (⟨hbel,hgate⟩:zB gb w ((w6.drew.setCell ⟨cb,0,none⟩ (St z)).setCell ⟨cb,1,none⟩ (St [49]))/\GateS gb z ((w6.drew.setCell ⟨cb,0,none⟩ (St z)).setCell ⟨cb,1,none⟩ (St [49])))
 clear hbel hgate hblk m0 m1 m2 m3 m4 m5 m6 m7 n2 n3 n4 n5 h hf
 go_wp2_with fail
 go_ret
 exact⟨rfl,HE.out⟩
structure RoundC (gb:Nat) (root coef:List UInt8) (S S':zA->Prop):Prop where
 nz:(root==[48])=false
 n1:(root==[49])=false
 norm:∀W:zA,Wd W->Pw W->qJ 184 #[St root] W (.tuple #[St coef,.string ⟨#[49]⟩,.int .i64 0])
 mul:qK 24 #[.string ⟨#[49]⟩,St coef] (.tuple #[St coef,.int .i64 0])
 keep:∀W W':zA,S W->qL W W'->S W'
 each:∀W:zA,Wd W->S W->zC zF 138 #[.pointer (some ⟨gb,0,none⟩),.agg #[St coef,.string ⟨#[49]⟩]] W λe w'=>e=.returned (.int .i64 0)/\zB gb W w'/\S' w'
theorem zvo (gb b off cap:Nat) (r1 r2 r3 c1 c2 c3:List UInt8) (S0 S1 S2 S3:zA->Prop) (hb:b<gb)
 (R1:Hid (RoundC gb r1 c1 S0 S1)) (R2:Hid (RoundC gb r2 c2 S1 S2)) (R3:Hid (RoundC gb r3 c3 S2 S3))
 (LG:Hid (qK 139 #[.string ⟨#[49]⟩] (.int .i64 1)))
 (w:zA) (hgb:gb<=w.heap.size) (HW:Hid (∀W,zB gb w W->Wd W)) (HP:Hid (∀W,zB gb w W->Pw W)) (h0:S0 w)
 (t0:w.cell? ⟨b,off,none⟩=some (.string ⟨#[49]⟩)) (t1:w.cell? ⟨b,off+1,none⟩=some (St r1)) (t2:w.cell? ⟨b,off+2,none⟩=some (.string ⟨#[49]⟩)) (t3:w.cell? ⟨b,off+3,none⟩=some (St r2))
 (t4:w.cell? ⟨b,off+4,none⟩=some (.string ⟨#[49]⟩)) (t5:w.cell? ⟨b,off+5,none⟩=some (St r3)):
 zC zF 137 #[.slice (some ⟨b,off,none⟩) 3 cap,.func (.func 138) #[.pointer (some ⟨gb,0,none⟩)] #[]] w λe w'=>e=.returned (.int .i64 0)/\zB gb w w'/\S3 w':=by
 have D0:=hid (zM gb w)
 have s0:=hid h0
 have T:=hid (⟨t0,t1,t2,t3,t4,t5⟩:_/\_/\_/\_/\_/\_)
 clear h0 t0 t1 t2 t3 t4 t5
 have g0:=hid hgb
 go_enter Tryz.func137,Tryz.ntmps137
 go_wp2_with fail
 refine wp_loop_rounds 4 ?_
 have z1:=R1.out.nz;have n1:=R1.out.n1
 have t0:w.cell? ⟨b,off,none⟩=some (.string ⟨#[49]⟩):=by rw[D0.out.cell (p:=⟨b,off,none⟩) hb];exact T.out.1
 have t1:w.cell? ⟨b,off+1,none⟩=some (St r1):=by rw[D0.out.cell (p:=⟨b,off+1,none⟩) hb];exact T.out.2.1
 rw[rounds_succ]
 go_wp2_with fail
 obtain⟨v1,hv⟩:∃v1,v1=w.alloc (.cells #[.string ⟨#[49]⟩,St r1] 57):=⟨_,rfl⟩
 have a1:qL w v1:=by rw[hv];exact(zM _ w).alloc (zN _) _
 have A1:v1.heap[w.heap.size]? =some (.cells #[.string ⟨#[49]⟩,St r1] 57 (0,0)):=by rw[hv];exact zG w _
 rw[<-show v1=w.alloc (.cells #[.string ⟨#[49]⟩,.string ⟨r1.toArray⟩] 57) from hv]
 have k0:v1.cell? ⟨w.heap.size,0,none⟩=some (.string ⟨#[49]⟩):=by rw[zJ A1];rfl
 have k1:v1.cell? ⟨w.heap.size,1,none⟩=some (St r1):=by rw[zJ A1];rfl
 clear hv t0 t1
 (refine wp_region_quiet_lit (by kernel_rfl) (by kernel_rfl) (WQ.out ?_);(repeat(first|(apply WQ.read (by rfl);(focus(rintro W ⟨n,rfl⟩;go_simp;try with_reducible rfl));try simp only[zzQ])|(apply WQ.skip (by rfl);try simp only[zzQ])));refine WQ.nil ?_;rintro _ ⟨nq,rfl⟩)
 have E1:=hid (zao a1 nq)
 have B1:=hid (show(v1.drewN nq).heap[w.heap.size]? =_ from A1)
 clear a1 A1
 go_wp2_with fail
 refine(R1.out.norm _ (HW.out _ (D0.out.trans (E1.out.mono g0.out))) (HP.out _ (D0.out.trans (E1.out.mono g0.out)))).mono ?_
 rintro e y1 ⟨rfl,hb1⟩
 have E2:=hid (E1.out.trans (hb1.mono E1.out.size));have B2:=hid (zac hb1 _ _ _ _ B1.out)
 clear hb1 E1 B1 k0 k1
 go_wp2_with fail
 refine(LG.out y1 (HW.out _ (D0.out.trans (E2.out.mono g0.out)))).mono ?_
 rintro e y2 ⟨rfl,hb1⟩
 have E3:=hid (E2.out.trans (hb1.mono E2.out.size));have B3:=hid (zac hb1 _ _ _ _ B2.out)
 clear hb1 E2 B2
 have k0:y2.cell? ⟨w.heap.size,0,none⟩=some (.string ⟨#[49]⟩):=by rw[zJ B3.out];rfl
 go_wp2_with fail
 refine(R1.out.mul y2 (HW.out _ (D0.out.trans (E3.out.mono g0.out)))).mono ?_
 rintro e y3 ⟨rfl,hb1⟩
 have E4:=hid (E3.out.trans (hb1.mono E3.out.size))
 clear hb1 E3 B3 k0
 go_wp2_with fail
 refine(R1.out.each y3 (HW.out _ (D0.out.trans (E4.out.mono g0.out))) (R1.out.keep _ _ s0.out E4.out)).mono ?_
 rintro e u1 ⟨rfl,hb1,hs⟩
 have D1:=hid ((D0.out.trans (E4.out.mono g0.out)).trans hb1)
 have g1:Hid (gb<=u1.heap.size):=hid (zO g0.out (zO E4.out.size hb1.size))
 have s1:=hid hs
 clear hb1 hs E4 z1 n1 s0
 go_wp2_with fail
 have z2:=R2.out.nz;have n2:=R2.out.n1
 have t0:u1.cell? ⟨b,off+2,none⟩=some (.string ⟨#[49]⟩):=by rw[D1.out.cell (p:=⟨b,off+2,none⟩) hb];exact T.out.2.2.1
 have t1:u1.cell? ⟨b,off+2+1,none⟩=some (St r2):=by rw[D1.out.cell (p:=⟨b,off+2+1,none⟩) hb];exact T.out.2.2.2.1
 rw[rounds_succ]
 go_wp2_with fail
 obtain⟨v2,hv⟩:∃v2,v2=u1.alloc (.cells #[.string ⟨#[49]⟩,St r2] 57):=⟨_,rfl⟩
 have a1:qL u1 v2:=by rw[hv];exact(zM _ u1).alloc (zN _) _
 have A1:v2.heap[u1.heap.size]? =some (.cells #[.string ⟨#[49]⟩,St r2] 57 (0,0)):=by rw[hv];exact zG u1 _
 rw[<-show v2=u1.alloc (.cells #[.string ⟨#[49]⟩,.string ⟨r2.toArray⟩] 57) from hv]
 have k0:v2.cell? ⟨u1.heap.size,0,none⟩=some (.string ⟨#[49]⟩):=by rw[zJ A1];rfl
 have k1:v2.cell? ⟨u1.heap.size,1,none⟩=some (St r2):=by rw[zJ A1];rfl
 clear hv t0 t1
 (refine wp_region_quiet_lit (by kernel_rfl) (by kernel_rfl) (WQ.out ?_);(repeat(first|(apply WQ.read (by rfl);(focus(rintro W ⟨n,rfl⟩;go_simp;try with_reducible rfl));try simp only[zzQ])|(apply WQ.skip (by rfl);try simp only[zzQ])));refine WQ.nil ?_;rintro _ ⟨nq,rfl⟩)
 have E1:=hid (zao a1 nq)
 have B1:=hid (show(v2.drewN nq).heap[u1.heap.size]? =_ from A1)
 clear a1 A1
 go_wp2_with fail
 refine(R2.out.norm _ (HW.out _ (D1.out.trans (E1.out.mono g1.out))) (HP.out _ (D1.out.trans (E1.out.mono g1.out)))).mono ?_
 rintro e y1 ⟨rfl,hb1⟩
 have E2:=hid (E1.out.trans (hb1.mono E1.out.size));have B2:=hid (zac hb1 _ _ _ _ B1.out)
 clear hb1 E1 B1 k0 k1
 go_wp2_with fail
 refine(LG.out y1 (HW.out _ (D1.out.trans (E2.out.mono g1.out)))).mono ?_
 rintro e y2 ⟨rfl,hb1⟩
 have E3:=hid (E2.out.trans (hb1.mono E2.out.size));have B3:=hid (zac hb1 _ _ _ _ B2.out)
 clear hb1 E2 B2
 have k0:y2.cell? ⟨u1.heap.size,0,none⟩=some (.string ⟨#[49]⟩):=by rw[zJ B3.out];rfl
 go_wp2_with fail
 refine(R2.out.mul y2 (HW.out _ (D1.out.trans (E3.out.mono g1.out)))).mono ?_
 rintro e y3 ⟨rfl,hb1⟩
 have E4:=hid (E3.out.trans (hb1.mono E3.out.size))
 clear hb1 E3 B3 k0
 go_wp2_with fail
 refine(R2.out.each y3 (HW.out _ (D1.out.trans (E4.out.mono g1.out))) (R2.out.keep _ _ s1.out E4.out)).mono ?_
 rintro e u2 ⟨rfl,hb1,hs⟩
 have D2:=hid ((D1.out.trans (E4.out.mono g1.out)).trans hb1)
 have g2:Hid (gb<=u2.heap.size):=hid (zO g1.out (zO E4.out.size hb1.size))
 have s2:=hid hs
 clear hb1 hs E4 z2 n2 s1
 go_wp2_with fail
 have z3:=R3.out.nz;have n3:=R3.out.n1
 have t0:u2.cell? ⟨b,off+4,none⟩=some (.string ⟨#[49]⟩):=by rw[D2.out.cell (p:=⟨b,off+4,none⟩) hb];exact T.out.2.2.2.2.1
 have t1:u2.cell? ⟨b,off+4+1,none⟩=some (St r3):=by rw[D2.out.cell (p:=⟨b,off+4+1,none⟩) hb];exact T.out.2.2.2.2.2
 rw[rounds_succ]
 go_wp2_with fail
 obtain⟨v3,hv⟩:∃v3,v3=u2.alloc (.cells #[.string ⟨#[49]⟩,St r3] 57):=⟨_,rfl⟩
 have a1:qL u2 v3:=by rw[hv];exact(zM _ u2).alloc (zN _) _
 have A1:v3.heap[u2.heap.size]? =some (.cells #[.string ⟨#[49]⟩,St r3] 57 (0,0)):=by rw[hv];exact zG u2 _
 rw[<-show v3=u2.alloc (.cells #[.string ⟨#[49]⟩,.string ⟨r3.toArray⟩] 57) from hv]
 have k0:v3.cell? ⟨u2.heap.size,0,none⟩=some (.string ⟨#[49]⟩):=by rw[zJ A1];rfl
 have k1:v3.cell? ⟨u2.heap.size,1,none⟩=some (St r3):=by rw[zJ A1];rfl
 clear hv t0 t1
 (refine wp_region_quiet_lit (by kernel_rfl) (by kernel_rfl) (WQ.out ?_);(repeat(first|(apply WQ.read (by rfl);(focus(rintro W ⟨n,rfl⟩;go_simp;try with_reducible rfl));try simp only[zzQ])|(apply WQ.skip (by rfl);try simp only[zzQ])));refine WQ.nil ?_;rintro _ ⟨nq,rfl⟩)
 have E1:=hid (zao a1 nq)
 have B1:=hid (show(v3.drewN nq).heap[u2.heap.size]? =_ from A1)
 clear a1 A1
 go_wp2_with fail
 refine(R3.out.norm _ (HW.out _ (D2.out.trans (E1.out.mono g2.out))) (HP.out _ (D2.out.trans (E1.out.mono g2.out)))).mono ?_
 rintro e y1 ⟨rfl,hb1⟩
 have E2:=hid (E1.out.trans (hb1.mono E1.out.size));have B2:=hid (zac hb1 _ _ _ _ B1.out)
 clear hb1 E1 B1 k0 k1
 go_wp2_with fail
 refine(LG.out y1 (HW.out _ (D2.out.trans (E2.out.mono g2.out)))).mono ?_
 rintro e y2 ⟨rfl,hb1⟩
 have E3:=hid (E2.out.trans (hb1.mono E2.out.size));have B3:=hid (zac hb1 _ _ _ _ B2.out)
 clear hb1 E2 B2
 have k0:y2.cell? ⟨u2.heap.size,0,none⟩=some (.string ⟨#[49]⟩):=by rw[zJ B3.out];rfl
 go_wp2_with fail
 refine(R3.out.mul y2 (HW.out _ (D2.out.trans (E3.out.mono g2.out)))).mono ?_
 rintro e y3 ⟨rfl,hb1⟩
 have E4:=hid (E3.out.trans (hb1.mono E3.out.size))
 clear hb1 E3 B3 k0
 go_wp2_with fail
 refine(R3.out.each y3 (HW.out _ (D2.out.trans (E4.out.mono g2.out))) (R3.out.keep _ _ s2.out E4.out)).mono ?_
 rintro e u3 ⟨rfl,hb1,hs⟩
 have D3:=hid ((D2.out.trans (E4.out.mono g2.out)).trans hb1)
 have g3:Hid (gb<=u3.heap.size):=hid (zO g2.out (zO E4.out.size hb1.size))
 have s3:=hid hs
 clear hb1 hs E4 z3 n3 s2
 go_wp2_with fail
 rw[rounds_succ]
 go_wp2_with fail
 go_ret
 exact⟨rfl,D3.out,s3.out⟩
end
section
open Go.RowKit Go.Shelf Lib Str Limb
theorem zm3 {c l r:Nat} (h:c*c*l=r*r) (hr:0<r):c<=r:=by
 rcases Nat.lt_or_ge r c with h1|h1
 ·exfalso
  have hl:0<l:=Nat.pos_of_ne_zero (λe=>by rw[e,Nat.mul_zero] at h;have:=Nat.mul_pos hr hr;omega)
  have h2:r*r<c*c:=Nat.mul_lt_mul'' h1 h1
  have h3:c*c<=c*c*l:=Nat.le_mul_of_pos_right _ hl
  omega
 ·exact h1
theorem z0c (c l:Nat) (h:c*c*l=3*3) (hp:∀i,i<25->¬prN i*prN i∣l):c=3/\l=1:=by
 have hc:=zm3 h (by omega)
 have p3:¬9∣l:=hp 1 (by omega)
 match c,hc with
 |0,_=>omega
 |1,_=>exact absurd ⟨1,by omega⟩ p3
 |2,_=>omega
 |3,_=>exact⟨rfl,by omega⟩
 |n+4,h=>omega
theorem z2a (c l:Nat) (h:c*c*l=4*4) (hp:∀i,i<25->¬prN i*prN i∣l):c=4/\l=1:=by
 have hc:=zm3 h (by omega)
 have p2:¬4∣l:=hp 0 (by omega)
 match c,hc with
 |0,_=>omega
 |1,_=>exact absurd ⟨4,by omega⟩ p2
 |2,_=>exact absurd ⟨1,by omega⟩ p2
 |3,_=>omega
 |4,_=>exact⟨rfl,by omega⟩
 |n+5,h=>omega
theorem z2b (c l:Nat) (h:c*c*l=5*5) (hp:∀i,i<25->¬prN i*prN i∣l):c=5/\l=1:=by
 have hc:=zm3 h (by omega)
 have p5:¬25∣l:=hp 2 (by omega)
 match c,hc with
 |0,_=>omega
 |1,_=>exact absurd ⟨1,by omega⟩ p5
 |2,_=>omega
 |3,_=>omega
 |4,_=>omega
 |5,_=>exact⟨rfl,by omega⟩
 |n+6,h=>omega
theorem GateS.keep {gb:Nat} {x:List UInt8} {W W':zA} (h:GateS gb x W) (hb:qL W W'):GateS gb x W':=by
 obtain⟨⟨cb,cap,cs,h1,h2,h3,h4,h5⟩,hf⟩:=h
 have hc:=zac hb
 exact⟨⟨cb,cap,cs,hc.cell h1,h2,hc _ _ _ _ h3,h4,h5⟩,hc.frozen h1 hf⟩
theorem zgo (n:Nat) (h:n<100):sz ((n:Int):Rat) 2:=⟨by show(n:Int).natAbs<10^2;rw[Int.natAbs_natCast];omega,by show 1<10^2;omega⟩
theorem zli (n:Nat) (h:n<100) (W:zA) (hW:Wd W):qJ 24 #[.string ⟨#[49]⟩,St (zD n)] W (.tuple #[St (zD n),.int .i64 0]):=by
 have:=zjf 1 ((n:Int):Rat) 2 2 (by omega) (by omega) (by omega) (sz_1.mono (by omega)) (zgo n h) W hW
 rw[Rat.one_mul,zfc,zc5] at this
 exact this
theorem zvp (n:Nat) (h:n<100) (W:zA) (hW:Wd W):qJ 24 #[St (zD n),.string ⟨#[49]⟩] W (.tuple #[St (zD n),.int .i64 0]):=by
 have:=zjf ((n:Int):Rat) 1 2 2 (by omega) (by omega) (by omega) (zgo n h) (sz_1.mono (by omega)) W hW
 rw[Rat.mul_one,zfc,zc5] at this
 exact this
theorem zx6 (m n:Nat) (hm:m<100) (hn:n<100) (W:zA) (hW:Wd W):qJ 23 #[St (zD m),St (zD n)] W (.tuple #[St (zD (m+n)),.int .i64 0]):=by
 have:=zje ((m:Int):Rat) ((n:Int):Rat) 2 2 (by omega) (by omega) (by omega) (zgo m hm) (zgo n hn) W hW
 rw[show((m:Int):Rat)+((n:Int):Rat)=(((m+n:Nat):Int):Rat) by rw[<-Rat.intCast_add];rfl,zc5,zc5,zc5] at this
 exact this
theorem z2c (W:zA) (hW:Wd W):qJ 20 #[.string ⟨#[49]⟩,.string ⟨#[49]⟩] W (.tuple #[.int .i64 0,.int .i64 0]):=by
 have:=zgq 1 1 1 1 (by omega) (by omega) (by omega) sz_1 sz_1 W hW
 rw[zfc,Geo.zeu] at this
 exact this
theorem zsb (gb m n:Nat) (hm:m<50) (hn:n<50) (W:zA) (hW:Wd W) (h:GateS gb (zD m) W):
 zC zF 138 #[.pointer (some ⟨gb,0,none⟩),.agg #[St (zD n),.string ⟨#[49]⟩]] W λe w'=>e=.returned (.int .i64 0)/\zB gb W w'/\GateS gb (zD (m+n)) w':=by
 obtain⟨⟨cb,cap,cs,h1,h2,h3,h4,h5⟩,hf⟩:=h
 exact zsa gb cb cap cs _ _ _ W (hid hW) h1 h2 hf h3 h4 h5 (hid z2c)
  (hid λW hW=>zx4 _ _ _ (hid λW hW=>zvp n (by omega) W hW) (hid λW hW=>zx6 m n (by omega) (by omega) W hW) W (hid hW))
theorem zf8:zD 16=[49,54]/\zD 9=[57]/\zD 25=[50,53]/\zD 12=[49,50]:=by
 refine⟨?_,?_,?_,?_⟩
 ·rw[zav (by omega),zae (by omega)];rfl
 ·rw[zae (by omega)];rfl
 ·rw[zav (by omega),zae (by omega)];rfl
 ·rw[zav (by omega),zae (by omega)];rfl
theorem zml (W:zA) (hW:Wd W):qJ 139 #[.string ⟨#[49]⟩] W (.int .i64 1):=by
 have:=znp 1 zn5 W hW
 rw[zfc] at this
 have e1:digs (1:Rat).num=1:=by show(zD 1).length=1;rw[zfg];rfl
 have e2:digs ((1:Rat).den:Int)=1:=by show(zD 1).length=1;rw[zfg];rfl
 rw[e1,e2] at this
 exact this
def z00 (gb:Nat) (W:zA):Prop:=W.cell? ⟨gb,0,none⟩=some (.slice none 0 0)/\W.frozen? ⟨gb,0,none⟩=false
theorem zx7 (gb:Nat):RoundC gb (zD (4*4)) (zD 4) (z00 gb) (GateS gb (zD 4)) where
 nz:=by rw[zf8.1];rfl
 n1:=by rw[zf8.1];rfl
 norm W hW hP:=zlh 4 (by omega) (by omega) z2a W hW hP
 mul W hW:=zli 4 (by omega) W hW
 keep W W' h hb:=⟨zai hb h.1,(zac hb).frozen h.1 h.2⟩
 each W _ h:=zqj gb _ W h.1 h.2
theorem zx8 (gb:Nat):RoundC gb (zD (3*3)) (zD 3) (GateS gb (zD 4)) (GateS gb (zD 7)) where
 nz:=by rw[zf8.2.1];rfl
 n1:=by rw[zf8.2.1];rfl
 norm W hW hP:=zlh 3 (by omega) (by omega) z0c W hW hP
 mul W hW:=zli 3 (by omega) W hW
 keep W W' h hb:=h.keep hb
 each W hW h:=zsb gb 4 3 (by omega) (by omega) W hW h
theorem ztk (gb:Nat):RoundC gb (zD (5*5)) (zD 5) (GateS gb (zD 7)) (GateS gb (zD 12)) where
 nz:=by rw[zf8.2.2.1];rfl
 n1:=by rw[zf8.2.2.1];rfl
 norm W hW hP:=zlh 5 (by omega) (by omega) z2b W hW hP
 mul W hW:=zli 5 (by omega) W hW
 keep W W' h hb:=h.keep hb
 each W hW h:=zsb gb 7 5 (by omega) (by omega) W hW h
theorem zx9 (gb b off cap:Nat) (hb:b<gb) (w:zA) (hgb:gb<=w.heap.size) (hw:∀W,zB gb w W->Wd W) (hp:∀W,zB gb w W->Pw W) (h0:z00 gb w)
 (t0:w.cell? ⟨b,off,none⟩=some (.string ⟨#[49]⟩)) (t1:w.cell? ⟨b,off+1,none⟩=some (St (zD (4*4)))) (t2:w.cell? ⟨b,off+2,none⟩=some (.string ⟨#[49]⟩)) (t3:w.cell? ⟨b,off+3,none⟩=some (St (zD (3*3))))
 (t4:w.cell? ⟨b,off+4,none⟩=some (.string ⟨#[49]⟩)) (t5:w.cell? ⟨b,off+5,none⟩=some (St (zD (5*5)))):
 zC zF 137 #[.slice (some ⟨b,off,none⟩) 3 cap,.func (.func 138) #[.pointer (some ⟨gb,0,none⟩)] #[]] w λe w'=>e=.returned (.int .i64 0)/\zB gb w w'/\GateS gb (zD 12) w':=
 zvo gb b off cap _ _ _ _ _ _ _ _ _ _ hb (hid (zx7 gb)) (hid (zx8 gb)) (hid (ztk gb)) (hid zml) w hgb (hid hw) (hid hp) h0 t0 t1 t2 t3 t4 t5
end
section
open Go.RowKit Go.Shelf Lib Str Limb
attribute [local go_sem] Oper.semAt_some
theorem zvq (v f:Value) (w:zA):
 zC zF 239 #[v,.int .i64 0,.int .i64 1,f] w λe w'=>(∃u,e=.returned u)/\w'=w:=by
 go_enter Tryz.func239,Tryz.ntmps239
 go_wp2_with fail
 refine wp_loop_rounds 1 ?_
 rw[rounds_succ]
 go_wp2_with fail
 go_end0
 exact⟨⟨_,rfl⟩,rfl⟩
theorem z2d (v f:Value) (n:Int) (w:zA):
 zC zF 187 #[v,.int .i64 0,.int .i64 1,.int .i64 n,f] w λe w'=>(∃u,e=.returned u)/\w'=w:=by
 go_enter Tryz.func187,Tryz.ntmps187
 go_wp2_with fail
 refine wp_loop_rounds 1 ?_
 rw[rounds_succ]
 go_wp2_with fail
 refine(zvq v f w).mono ?_
 rintro e w' ⟨⟨u,rfl⟩,rfl⟩
 go_wp2_with fail
 refine bodyPost_ret (results_none rfl _ _ _) rfl ?_
 exact⟨⟨_,rfl⟩,rfl⟩
theorem z0d (p:Option Addr) (cap:Nat) (f:Value) (w:zA):
 zC zF 140 #[.slice p 1 cap,f] w λe w'=>(∃u,e=.returned u)/\w'=w:=by
 have hl:=Tryz.bits_Len 1 w (by omega) (by omega)
 have HL:=hid hl;clear hl
 go_enter Tryz.func140,Tryz.ntmps140
 go_wp2_with fail
 refine HL.out.mono ?_
 rintro e w' ⟨rfl,rfl⟩
 go_wp2_with fail
 refine(z2d _ f _ _).mono ?_
 rintro e w'' ⟨⟨u,rfl⟩,rfl⟩
 go_wp2_with fail
 go_end0
 exact⟨⟨_,rfl⟩,rfl⟩
theorem zi2 (n:Nat) (h:n<100) (W:zA) (hW:Wd W):qJ 80 #[St (zD n)] W (.int .i64 0):=by
 have hz:=zgo n h
 have:=zfj ((n:Int):Rat) (zd0 (by omega) (by omega) hz) W hW
 rwa [zc5] at this
theorem zlj (W:zA) (hW:Wd W):qJ 80 #[.string ⟨#[49]⟩] W (.int .i64 0):=by
 have:=zfj 1 zn5 W hW
 rwa [zfc] at this
theorem zvr (W:zA) (hW:Wd W):qJ 139 #[.string ⟨#[49,50]⟩] W (.int .i64 2):=by
 have:=znp ((12:Nat):Int) (zd0 (by omega) (by omega) (zgo 12 (by omega))) W hW
 rw[zc5,zf8.2.2.2] at this
 have e1:digs (((12:Nat):Int):Rat).num=2:=by show(zD 12).length=2;rw[zf8.2.2.2];rfl
 have e2:digs ((((12:Nat):Int):Rat).den:Int)=1:=by show(zD 1).length=1;rw[zfg];rfl
 rw[e1,e2] at this
 exact this
theorem zsc:(Tryz.prog.info? 57).map (λi=>(i.zero,i.size,i.bytes))=some (some (.agg #[St [],St []]),2,32):=by kernel_rfl
theorem zoq (W:zA) (x y:Value) (t:TypeId):∀i u,[x,y][i]? =some u->(W.alloc (.cells #[x,y] t)).cell? ((⟨W.heap.size,0,none⟩:Addr).add i)=some u:=λi u hu=>by
 have A:=zG W (.cells #[x,y] t)
 have:((⟨W.heap.size,0,none⟩:Addr).add i)=⟨W.heap.size,i,none⟩:=by simp only[Addr.add,Nat.zero_add];split<;>simp_all
 rw[this,zJ A]
 match i,hu with
 |0,hu=>exact hu
 |1,hu=>exact hu
theorem zm4 (x y:List UInt8):∀u∈[St x,St y],u.oneCell'=true:=λu hu=>by
 simp at hu;rcases hu with rfl|rfl<;>rfl
theorem z2e {w:zA} {base:Nat} {t:TypeId} {v x y:Value} (h:w.ownsRow base t 2 v 1 [x,y]):∃g c,v=.slice (some ⟨g,0,none⟩) 1 c/\base<=g/\g<w.heap.size/\w.cell? ⟨g,0,none⟩=some x/\w.cell? ⟨g,1,none⟩=some y:=by
 rcases h.2 with⟨_,e⟩|⟨g,cp,cur,e,hg1,hg2,_,_,hcs,htk⟩
 ·omega
 ·refine⟨g,cp,e,hg1,(Array.getElem?_eq_some_iff.1 hg2).1,?_,?_⟩
  ·have h0:=congrArg (λl=>l[0]?) htk
   rw[List.getElem?_take] at h0
   rw[zJ hg2]
   simpa using h0
  ·have h0:=congrArg (λl=>l[1]?) htk
   rw[List.getElem?_take] at h0
   rw[zJ hg2]
   simpa using h0
theorem zj7 (n:Nat) (W:zA):zC zF 118 #[St (zD n),.string ⟨#[45]⟩] W λe w'=>e=.returned (.bool false)/\w'=W:=by
 have hc:=Tryz.strings_HasPrefix ⟨(zD n).toArray⟩ ⟨#[45]⟩ W
 obtain⟨c,r,e,hc1,_⟩:=dec_head n
 have hc5:c≠45:=λh=>by subst h;simp at hc1
 have hp:Lib.hasPrefix (zD n) [45]=false:=by rw[e];simp[Lib.hasPrefix,List.isPrefixOf,Ne.symm hc5]
 rw[show(⟨(zD n).toArray⟩:ByteArray).data.toList=zD n from rfl,show(⟨#[45]⟩:ByteArray).data.toList=[45] from rfl,hp] at hc
 exact hc
theorem z0e (b off cap:Nat) (w:zA) (HW:Hid (∀W,qL w W->Wd W)) (HP:Hid (∀W,qL w W->Pw W))
 (t0:w.cell? ⟨b,off,none⟩=some (.string ⟨#[49]⟩)) (t1:w.cell? ⟨b,off+1,none⟩=some (St (zD (4*4)))) (t2:w.cell? ⟨b,off+2,none⟩=some (.string ⟨#[49]⟩)) (t3:w.cell? ⟨b,off+3,none⟩=some (St (zD (3*3))))
 (t4:w.cell? ⟨b,off+4,none⟩=some (.string ⟨#[49]⟩)) (t5:w.cell? ⟨b,off+5,none⟩=some (St (zD (5*5)))):
 zC zF 79 #[.slice (some ⟨b,off,none⟩) 3 cap] w λe w'=>∃g c,e=.returned (.tuple #[.slice (some ⟨g,0,none⟩) 1 c,.int .i64 0])/\zB w.heap.size w w'/\w.heap.size<=g/\w'.cell? ⟨g,0,none⟩=some (St [49,50])/\w'.cell? ⟨g,1,none⟩=some (.string ⟨#[49]⟩):=by
 obtain⟨i0,hi,hz0,hz1,hz2⟩:=info_parts zsc
 have hb:=zbe t0
 have T:=hid (⟨t0,t1,t2,t3,t4,t5⟩:_/\_/\_/\_/\_/\_)
 have D0:=hid (zM w.heap.size w)
 clear t0 t1 t2 t3 t4 t5
 obtain⟨r1,hr1⟩:∃r,r=zD (4*4):=⟨_,rfl⟩
 obtain⟨r2,hr2⟩:∃r,r=zD (3*3):=⟨_,rfl⟩
 obtain⟨r3,hr3⟩:∃r,r=zD (5*5):=⟨_,rfl⟩
 rw[<-hr1,<-hr2,<-hr3] at T
 have C1:Hid (qK 80 #[St r1] (.int .i64 0)):=hid (by rw[hr1];exact λW hW=>zi2 _ (by omega) W hW)
 have X1:Hid (∀W:zA,zC zF 118 #[St r1,.string ⟨#[45]⟩] W λe w'=>e=.returned (.bool false)/\w'=W):=hid (by rw[hr1];exact λW=>zj7 _ W)
 have C2:Hid (qK 80 #[St r2] (.int .i64 0)):=hid (by rw[hr2];exact λW hW=>zi2 _ (by omega) W hW)
 have X2:Hid (∀W:zA,zC zF 118 #[St r2,.string ⟨#[45]⟩] W λe w'=>e=.returned (.bool false)/\w'=W):=hid (by rw[hr2];exact λW=>zj7 _ W)
 have C3:Hid (qK 80 #[St r3] (.int .i64 0)):=hid (by rw[hr3];exact λW hW=>zi2 _ (by omega) W hW)
 have X3:Hid (∀W:zA,zC zF 118 #[St r3,.string ⟨#[45]⟩] W λe w'=>e=.returned (.bool false)/\w'=W):=hid (by rw[hr3];exact λW=>zj7 _ W)
 have HR:=hid (⟨hr1,hr2,hr3⟩:_/\_/\_)
 clear hr1 hr2 hr3
 go_enter Tryz.func79,Tryz.ntmps79
 go_wp2_with fail
 refine wp_loop_rounds 4 ?_
 have t0:w.cell? ⟨b,off,none⟩=some (.string ⟨#[49]⟩):=by rw[D0.out.cell (p:=⟨b,off,none⟩) hb];exact T.out.1
 have t1:w.cell? ⟨b,off+1,none⟩=some (St r1):=by rw[D0.out.cell (p:=⟨b,off+1,none⟩) hb];exact T.out.2.1
 rw[rounds_succ]
 obtain⟨v1,hv⟩:∃v1,v1=w.alloc (.cells #[.string ⟨#[49]⟩,St r1] 57):=⟨_,rfl⟩
 have a1:qL w v1:=by rw[hv];exact(zM _ w).alloc (zN _) _
 have A1:v1.heap[w.heap.size]? =some (.cells #[.string ⟨#[49]⟩,St r1] 57 (0,0)):=by rw[hv];exact zG w _
 have HV:=hid hv;clear hv
 go_wp2_with fail
 rw[<-show v1=w.alloc (.cells #[.string ⟨#[49]⟩,.string ⟨r1.toArray⟩] 57) from HV.out]
 clear t0 t1 HV
 refine(zlj v1 (HW.out _ (D0.out.trans (a1.mono D0.out.size)))).mono ?_
 rintro e y1 ⟨rfl,hb1⟩
 have E1:=hid (a1.trans (hb1.mono a1.size));have B1:=hid (zac hb1 _ _ _ _ A1)
 clear a1 A1 hb1
 have k1:y1.cell? ⟨w.heap.size,1,none⟩=some (St r1):=by rw[zJ B1.out];rfl
 go_wp2_with fail
 refine(C1.out y1 (HW.out _ (D0.out.trans (E1.out.mono D0.out.size)))).mono ?_
 rintro e y2 ⟨rfl,hb1⟩
 have E2:=hid (E1.out.trans (hb1.mono E1.out.size));have B2:=hid (zac hb1 _ _ _ _ B1.out)
 clear hb1 k1 E1 B1
 have k1:y2.cell? ⟨w.heap.size,1,none⟩=some (St r1):=by rw[zJ B2.out];rfl
 go_wp2_with fail
 refine(X1.out y2).mono ?_
 rintro e u1 ⟨rfl,hw1⟩
 have hw2:=hw1.symm
 have D1:Hid (qL w u1):=hid (by rw[hw1];exact D0.out.trans (E2.out.mono D0.out.size))
 clear hw1 hw2 k1 E2 B2
 go_wp2_with fail
 have t0:u1.cell? ⟨b,off+2,none⟩=some (.string ⟨#[49]⟩):=by rw[D1.out.cell (p:=⟨b,off+2,none⟩) hb];exact T.out.2.2.1
 have t1:u1.cell? ⟨b,off+2+1,none⟩=some (St r2):=by rw[D1.out.cell (p:=⟨b,off+2+1,none⟩) hb];exact T.out.2.2.2.1
 rw[rounds_succ]
 obtain⟨v2,hv⟩:∃v2,v2=u1.alloc (.cells #[.string ⟨#[49]⟩,St r2] 57):=⟨_,rfl⟩
 have a1:qL u1 v2:=by rw[hv];exact(zM _ u1).alloc (zN _) _
 have A1:v2.heap[u1.heap.size]? =some (.cells #[.string ⟨#[49]⟩,St r2] 57 (0,0)):=by rw[hv];exact zG u1 _
 have HV:=hid hv;clear hv
 go_wp2_with fail
 rw[<-show v2=u1.alloc (.cells #[.string ⟨#[49]⟩,.string ⟨r2.toArray⟩] 57) from HV.out]
 clear t0 t1 HV
 refine(zlj v2 (HW.out _ (D1.out.trans (a1.mono D1.out.size)))).mono ?_
 rintro e y1 ⟨rfl,hb1⟩
 have E1:=hid (a1.trans (hb1.mono a1.size));have B1:=hid (zac hb1 _ _ _ _ A1)
 clear a1 A1 hb1
 have k1:y1.cell? ⟨u1.heap.size,1,none⟩=some (St r2):=by rw[zJ B1.out];rfl
 go_wp2_with fail
 refine(C2.out y1 (HW.out _ (D1.out.trans (E1.out.mono D1.out.size)))).mono ?_
 rintro e y2 ⟨rfl,hb1⟩
 have E2:=hid (E1.out.trans (hb1.mono E1.out.size));have B2:=hid (zac hb1 _ _ _ _ B1.out)
 clear hb1 k1 E1 B1
 have k1:y2.cell? ⟨u1.heap.size,1,none⟩=some (St r2):=by rw[zJ B2.out];rfl
 go_wp2_with fail
 refine(X2.out y2).mono ?_
 rintro e u2 ⟨rfl,hw1⟩
 have hw2:=hw1.symm
 have D2:Hid (qL w u2):=hid (by rw[hw1];exact D1.out.trans (E2.out.mono D1.out.size))
 clear hw1 hw2 k1 E2 B2
 go_wp2_with fail
 have t0:u2.cell? ⟨b,off+4,none⟩=some (.string ⟨#[49]⟩):=by rw[D2.out.cell (p:=⟨b,off+4,none⟩) hb];exact T.out.2.2.2.2.1
 have t1:u2.cell? ⟨b,off+4+1,none⟩=some (St r3):=by rw[D2.out.cell (p:=⟨b,off+4+1,none⟩) hb];exact T.out.2.2.2.2.2
 rw[rounds_succ]
 obtain⟨v3,hv⟩:∃v3,v3=u2.alloc (.cells #[.string ⟨#[49]⟩,St r3] 57):=⟨_,rfl⟩
 have a1:qL u2 v3:=by rw[hv];exact(zM _ u2).alloc (zN _) _
 have A1:v3.heap[u2.heap.size]? =some (.cells #[.string ⟨#[49]⟩,St r3] 57 (0,0)):=by rw[hv];exact zG u2 _
 have HV:=hid hv;clear hv
 go_wp2_with fail
 rw[<-show v3=u2.alloc (.cells #[.string ⟨#[49]⟩,.string ⟨r3.toArray⟩] 57) from HV.out]
 clear t0 t1 HV
 refine(zlj v3 (HW.out _ (D2.out.trans (a1.mono D2.out.size)))).mono ?_
 rintro e y1 ⟨rfl,hb1⟩
 have E1:=hid (a1.trans (hb1.mono a1.size));have B1:=hid (zac hb1 _ _ _ _ A1)
 clear a1 A1 hb1
 have k1:y1.cell? ⟨u2.heap.size,1,none⟩=some (St r3):=by rw[zJ B1.out];rfl
 go_wp2_with fail
 refine(C3.out y1 (HW.out _ (D2.out.trans (E1.out.mono D2.out.size)))).mono ?_
 rintro e y2 ⟨rfl,hb1⟩
 have E2:=hid (E1.out.trans (hb1.mono E1.out.size));have B2:=hid (zac hb1 _ _ _ _ B1.out)
 clear hb1 k1 E1 B1
 have k1:y2.cell? ⟨u2.heap.size,1,none⟩=some (St r3):=by rw[zJ B2.out];rfl
 go_wp2_with fail
 refine(X3.out y2).mono ?_
 rintro e u3 ⟨rfl,hw1⟩
 have hw2:=hw1.symm
 have D3:Hid (qL w u3):=hid (by rw[hw1];exact D2.out.trans (E2.out.mono D2.out.size))
 clear hw1 hw2 k1 E2 B2
 go_wp2_with fail
 rw[rounds_succ]
 go_wp2_with fail
 have N0:qL u3 (u3.alloc (.cells #[.slice none 0 0] 170)):=(zM _ u3).alloc (zN _) _
 have NA:=zG u3 (.cells #[.slice none 0 0] 170)
 have NZ:(u3.alloc (.cells #[.slice none 0 0] 170)).heap.size=u3.heap.size+1:=by simp
 generalize u3.alloc (.cells #[.slice none 0 0] 170)=vg at*
 have HV:Hid (zC zF 137 #[.slice (some ⟨b,off,none⟩) 3 cap,.func (.func 138) #[.pointer (some ⟨u3.heap.size,0,none⟩)] #[]] vg λe w'=>e=.returned (.int .i64 0)/\zB u3.heap.size vg w'/\GateS u3.heap.size (zD 12) w'):=hid (by
  obtain⟨q1,q2,q3⟩:=HR.out
  have T':=T.out
  rw[q1,q2,q3] at T'
  obtain⟨t0,t1,t2,t3,t4,t5⟩:=T'
  have hB:qL w vg:=D3.out.trans (N0.mono D3.out.size)
  have hs:=D3.out.size
  have key:∀o v,w.cell? ⟨b,o,none⟩=some v->vg.cell? ⟨b,o,none⟩=some v:=λo v h=>by rw[hB.cell (p:=⟨b,o,none⟩) hb];exact h
  exact zx9 u3.heap.size b off cap (by omega) vg (by omega) (λW h=>HW.out _ (D3.out.trans ((N0.trans h).mono hs))) (λW h=>HP.out _ (D3.out.trans ((N0.trans h).mono hs)))
   ⟨by rw[zJ NA];rfl,by rw[Go.Joins.unfrozen_of_block NA]⟩ (key _ _ t0) (key _ _ t1) (key _ _ t2) (key _ _ t3) (key _ _ t4) (key _ _ t5))
 clear NA NZ T
 refine HV.out.mono ?_
 rintro e z ⟨rfl,hz,hg⟩
 rw[zf8.2.2.2] at hg
 have DZ:Hid (qL w z):=hid (D3.out.trans ((N0.trans hz).mono D3.out.size))
 obtain⟨⟨cb,ccap,cs,g0,hcb,g1,g2,g3⟩,_⟩:=hg
 have c0:z.cell? ⟨cb,0,none⟩=some (.string ⟨#[49,50]⟩):=by rw[zJ g1];exact g2
 have c1:z.cell? ⟨cb,1,none⟩=some (.string ⟨#[49]⟩):=by rw[zJ g1];exact g3
 clear g1 g2 g3 hcb hz N0 HV
 go_wp2_with fail
 refine wp_loop_rounds 2 ?_
 rw[rounds_succ]
 obtain⟨x1,hv⟩:∃x1,x1=z.alloc (.cells #[.string ⟨#[49,50]⟩,.string ⟨#[49]⟩] 174):=⟨_,rfl⟩
 have a1:qL z x1:=by rw[hv];exact(zM _ z).alloc (zN _) _
 have A1:x1.heap[z.heap.size]? =some (.cells #[.string ⟨#[49,50]⟩,.string ⟨#[49]⟩] 174 (0,0)):=by rw[hv];exact zG z _
 have HX:=hid hv;clear hv
 go_wp2_with fail
 rw[<-show x1=z.alloc (.cells #[.string ⟨#[49,50]⟩,.string ⟨#[49]⟩] 174) from HX.out]
 have DX:Hid (qL w x1):=hid (DZ.out.trans (a1.mono DZ.out.size))
 have k0:x1.cell? ⟨z.heap.size,0,none⟩=some (.string ⟨#[49,50]⟩):=by rw[zJ A1];rfl
 clear c0 c1 g0 a1 HX HR
 go_wp2_with fail
 refine(zvr x1 (HW.out _ DX.out)).mono ?_
 rintro e y1 ⟨rfl,hb1⟩
 have E1:=hid (DX.out.trans (hb1.mono DX.out.size));have B1:=hid (zac hb1 _ _ _ _ A1)
 clear A1 hb1 k0
 have k1:y1.cell? ⟨z.heap.size,1,none⟩=some (.string ⟨#[49]⟩):=by rw[zJ B1.out];rfl
 go_wp2_with fail
 refine(zml y1 (HW.out _ E1.out)).mono ?_
 rintro e y2 ⟨rfl,hb1⟩
 have E2:=hid (E1.out.trans (hb1.mono E1.out.size));have B2:=hid (zac hb1 _ _ _ _ B1.out)
 clear k1 E1 B1 hb1
 have k0:y2.cell? ⟨z.heap.size,0,none⟩=some (.string ⟨#[49,50]⟩):=by rw[zJ B2.out];rfl
 have k1:y2.cell? ⟨z.heap.size,1,none⟩=some (.string ⟨#[49]⟩):=by rw[zJ B2.out];rfl
 go_wp2_with (at_builtin;refine wpList_append_own _ rfl _ _ 52 rfl w.heap.size 57 i0 (.agg #[St [],St []]) 2 32 Tryz.underlying52 hi hz0 hz1 hz2 rfl (by decide) (.slice none 0 0) 0 [] rfl (World.ownsRow_nil _ _ _ _) ⟨y2.heap.size,0,none⟩ 1 1 [St [49,50],St [49]] rfl rfl (zoq _ _ _ _) (zm4 _ _) (by unfold maxLen;omega) (by omega) (by have:=E2.out.size;simp;omega) (λv' w' hown' hgrow _=>?_))
 obtain⟨g,gc,rfl,hg,hgl,q0,q1⟩:=z2e hown'
 have F1:Hid (qL w w'):=hid ((E2.out.alloc E2.out.size _).grown hgrow (by have:=E2.out.size;simp;omega) (λq e=>by cases e))
 have HQ:=hid (⟨hg,hgl,q0,q1⟩:w.heap.size<=g/\g<w'.heap.size/\w'.cell? ⟨g,0,none⟩=some (St [49,50])/\w'.cell? ⟨g,1,none⟩=some (St [49]))
 clear hgrow hown' k0 k1 hg hgl q0 q1
 rw[rounds_succ]
 go_wp2_with fail
 refine(z0d _ _ _ w').mono ?_
 rintro e y5 ⟨⟨u,rfl⟩,hw5⟩
 have hw6:=hw5.symm;subst hw6;clear hw5
 go_wp2_with fail
 go_ret2
 exact⟨g,gc,rfl,F1.out,HQ.out.1,HQ.out.2.2.1,HQ.out.2.2.2⟩
end
end Go.Proofs.YthfpmfdiamldoaaGreatDoor
