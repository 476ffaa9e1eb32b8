/- rational.Add and Mul of any numerals: the result, or the error of a limit. -/
import Derived.Test.YtnjiiafnneillaaGreatDoorX13
set_option maxRecDepth 100000
set_option maxHeartbeats 8000000
open Go renaming World → zA, Calls → zC
open Go.RowKit renaming Below → zB, intOf → zL
open Go.Lib renaming decDigits → zD, itoa → zE
open Go.Proofs.Tryz renaming prog → zF
open Go.World renaming alloc_heap_new → zG, size_alloc → zH
open Go.Joins renaming cell_of_block → zJ, block_setCell → zK
open Go.RowKit.Below renaming refl → zM, heap_setCell → yE
open Nat renaming le_refl → zN, le_trans → zO, zero_le → zR, lt_of_lt_of_le → zS, le_of_lt → zT, pos_of_ne_zero → yS
open List renaming length_map → zV, getElem?_eq_getElem → yB, mem_cons_self → yD
namespace Go.Proofs.YtnjiiafnneillaaGreatDoor
section
open Go.RowKit Go.Shelf Lib Str Limb
attribute [local go_sem] Oper.semAt_some
theorem zh8 {z:Int} (h:¬digs z<=300):resL z=[]:=if_neg h
theorem zh9 {z:Int} (h:¬digs z<=300):resE z=4:=if_neg h
def okAdd (a b:Rat):Prop:=digs (a.num*b.den)<=300/\digs (b.num*a.den)<=300/\digs (a.num*b.den+b.num*a.den)<=300/\digs ((a.den*b.den:Nat):Int)<=300
def okMul (a b:Rat):Prop:=digs (a.num*b.num)<=300/\digs ((a.den*b.den:Nat):Int)<=300
instance okAddDec (a b:Rat):Decidable (okAdd a b):=inferInstanceAs (Decidable (_/\_/\_/\_))
instance okMulDec (a b:Rat):Decidable (okMul a b):=inferInstanceAs (Decidable (_/\_))
theorem zs6 (n1 n2:Int) (d1 d2:Nat) (h1:digs n1<=300) (_:digs n2<=300) (_:(zD d1).length<=300) (h4:(zD d2).length<=300) (k1:¬digs (n1*d2)<=300) (w:zA) (hw:Wd w):
 zC zF 69 #[.agg #[St (zE n1),St (zD d1)],.agg #[St (zE n2),St (zD d2)]] w λe w'=>
  e=.returned (.tuple #[St [],St [],.int .i64 4])/\zB w.heap.size w w':=by
 have m1:=λW hW=>zhk n1 d2 h1 (by unfold digs;rw[Int.natAbs_natCast];exact h4) W hW;rw[zh8 k1,zh9 k1,Str.zad] at m1;generalize zE n1=s1 at m1⊢;generalize zE n2=s2 at⊢;generalize zD d1=t1 at⊢;generalize zD d2=t2 at m1⊢;have M1:=hid m1;have HW:=hid hw;clear m1 hw h1 h4 k1;obtain⟨W3,hW3⟩:=zzX ((w.alloc (.cells #[St s1,St t1] 76)).alloc (.cells #[St s2,St t2] 76));have hB0:qL w W3:=by rw[hW3];exact((zM _ w).alloc (zN _) _).alloc (by simp) _
 have z0:W3.heap.size=w.heap.size+1+1:=by rw[hW3];simp
 have A3:W3.heap[w.heap.size]? =some (.cells #[St s1,St t1] 76 (0,0)):=by
  rw[hW3];exact(Below.heap_alloc _ _ _ (by simp only[zH];omega)).trans (zG w _)
 have B3:W3.heap[w.heap.size+1]? =some (.cells #[St s2,St t2] 76 (0,0)):=by
  have:=zG (w.alloc (.cells #[St s1,St t1] 76)) (.cells #[St s2,St t2] 76 (0,0));rw[zH] at this;rw[hW3];exact this
 have HW3:=hid hW3;clear hW3;go_enter Tryz.func69,Tryz.ntmps69;go_wp21;rw[<-HW3.out];refine zzM (M1.out _ (HW.out.below hB0)) λw4 hb4=>?_;have hB4:=hB0.trans (hb4.mono hB0.size);clear hb4 A3 B3 z0;go_wp21;go_ret3;exact⟨rfl,hB4⟩
theorem yfd (a b:Rat) (ha:okQ a) (hb:okQ b) (h:¬okAdd a b)
 (c:Nat) (w:zA) (hc:w.cell? ⟨c,0,none⟩=some (.func (.func 44) #[] #[])) (hw:Wd w):
 qJ 101 #[zb1 a,zb1 b,.pointer (some ⟨c,0,none⟩)] w (.tuple #[St [],.int .i64 4]):=by
 have key:(qK 69 #[zb1 a,zb1 b] (.tuple #[St [],St [],.int .i64 4]))\/
  (∃(u1 u2 v:List UInt8),(qK 69 #[zb1 a,zb1 b] (.tuple #[St u1,St v,.int .i64 4])))\/
  (∃(u1 u2:List UInt8),(qK 69 #[zb1 a,zb1 b] (.tuple #[St u1,St u2,.int .i64 0]))/\
    ((qK 44 #[St u1,St u2] (.tuple #[St [],.int .i64 4]))\/
     (∃u:List UInt8,(qK 44 #[St u1,St u2] (.tuple #[St u,.int .i64 0]))/\
      qK 41 #[St (zD a.den),St (zD b.den)] (.tuple #[St [],.int .i64 4])))):=by
  by_cases h1:digs (a.num*b.den)<=300
  ·have m1:=λW hW=>zhc a.num b.num a.den b.den ha.1 hb.1 ha.2 hb.2 h1 W hW
   by_cases h2:digs (b.num*a.den)<=300
   ·rw[zcf h2,zcg h2] at m1
    refine .inr (.inr ⟨_,_,m1,?_⟩);have m3:=λW hW=>z1c (a.num*b.den) (b.num*a.den) h1 h2 W hW;by_cases h3:digs (a.num*b.den+b.num*a.den)<=300
    ·rw[zcf h3,zcg h3] at m3
     refine .inr ⟨_,m3,?_⟩;have h4:¬digs ((a.den*b.den:Nat):Int)<=300:=λh4=>h ⟨h1,h2,h3,h4⟩;have m2:=λW hW=>zhk (a.den:Int) (b.den:Int) (by rw[zd9];exact ha.2) (by rw[zd9];exact hb.2) W hW;rw[<-Int.natCast_mul,Str.zad,Str.zad,zh8 h4,zh9 h4] at m2;exact m2
    ·rw[zh8 h3,zh9 h3] at m3
     exact .inl m3
   ·rw[zh8 h2,zh9 h2] at m1
    exact .inr (.inl ⟨_,[],_,m1⟩)
  ·exact .inl λW hW=>zs6 a.num b.num a.den b.den ha.1 hb.1 ha.2 hb.2 h1 W hW
 unfold zb1 at key⊢;generalize zE a.num=s1 at key⊢;generalize zE b.num=s2 at key⊢;generalize zD a.den=t1 at key⊢;generalize zD b.den=t2 at key⊢;have HW:=hid hw;clear hw h ha hb;have zc:=zbe hc;dsimp only at zc;obtain⟨W3,hW3⟩:=zzX ((w.alloc (.cells #[St s1,St t1] 76)).alloc (.cells #[St s2,St t2] 76));have hB0:qL w W3:=by rw[hW3];exact((zM _ w).alloc (zN _) _).alloc (by simp) _
 have z0:W3.heap.size=w.heap.size+1+1:=by rw[hW3];simp
 have A3:W3.heap[w.heap.size]? =some (.cells #[St s1,St t1] 76 (0,0)):=by
  rw[hW3];exact(Below.heap_alloc _ _ _ (by simp only[zH];omega)).trans (zG w _)
 have B3:W3.heap[w.heap.size+1]? =some (.cells #[St s2,St t2] 76 (0,0)):=by
  have:=zG (w.alloc (.cells #[St s1,St t1] 76)) (.cells #[St s2,St t2] 76 (0,0));rw[zH] at this;rw[hW3];exact this
 have HW3:=hid hW3;clear hW3;go_enter Tryz.func101,Tryz.ntmps101;go_wp21;rw[<-HW3.out];rcases key with m1|⟨u1,u2,v,m1⟩|⟨u1,u2,m1,key⟩
 ·refine zzM (m1 _ (HW.out.below hB0)) λw4 hb4=>?_
  have hB4:=hB0.trans (hb4.mono hB0.size);clear hb4 m1;go_wp21;go_ret2;exact⟨rfl,hB4⟩
 ·refine zzM (m1 _ (HW.out.below hB0)) λw4 hb4=>?_
  have hB4:=hB0.trans (hb4.mono hB0.size);clear hb4 m1;go_wp21;go_ret2;exact⟨rfl,hB4⟩
 ·have KEY:=hid key;clear key
  refine zzM (m1 _ (HW.out.below hB0)) λw4 hb4=>?_;have hB4:=hB0.trans (hb4.mono hB0.size);have A4:w4.heap[w.heap.size]? =some (.cells #[St s1,St t1] 76 (0,0)):=(hb4.block _ (by omega)).trans A3;have B4:w4.heap[w.heap.size+1]? =some (.cells #[St s2,St t2] 76 (0,0)):=(hb4.block _ (by omega)).trans B3;have z4:W3.heap.size<=w4.heap.size:=hb4.size;have C4:w4.cell? ⟨c,0,none⟩=some (.func (.func 44) #[] #[]):=by rw[hB4.cell (p:=⟨c,0,none⟩) zc];exact hc
  clear hb4 A3 B3 hc m1;go_wp21;rcases KEY.out with m3|⟨u,m3,m2⟩
  ·refine zzM (m3 _ (HW.out.below hB4)) λw5 hb5=>?_
   have hB5:=hB4.trans (hb5.mono hB4.size);clear hb5 C4 A4 B4 KEY m3;go_wp21;go_ret2;exact⟨rfl,hB5⟩
  ·have M2:=hid m2;clear m2 KEY
   refine zzM (m3 _ (HW.out.below hB4)) λw5 hb5=>?_;have hB5:=hB4.trans (hb5.mono hB4.size);have A5:w5.heap[w.heap.size]? =some (.cells #[St s1,St t1] 76 (0,0)):=(hb5.block _ (by omega)).trans A4;have B5:w5.heap[w.heap.size+1]? =some (.cells #[St s2,St t2] 76 (0,0)):=(hb5.block _ (by omega)).trans B4;have A51:w5.cell? ⟨w.heap.size,1,none⟩=some (St t1):=by simp[World.cell?,A5]
   have B51:w5.cell? ⟨w.heap.size+1,1,none⟩=some (St t2):=by simp[World.cell?,B5]
   clear hb5 A4 B4 C4 A5 B5 m3;go_wp21;refine zzM (M2.out _ (HW.out.below hB5)) λw6 hb6=>?_;have hB6:=hB5.trans (hb6.mono hB5.size);clear hb6 A51 B51;go_wp21;go_ret2;exact⟨rfl,hB6⟩
theorem zxy (a b:Rat) (ha:okQ a) (hb:okQ b) (c:Nat) (r:List UInt8) (E:Int) (w:zA) (hw:Wd w)
 (H:∀W:zA,qL w W->Wd W->qJ 101 #[zb1 a,zb1 b,.pointer (some ⟨c,0,none⟩)] W (.tuple #[St r,.int .i64 E])):
 qJ 36 #[St (numS a),St (numS b),.func (.func 101) #[] #[.pointer (some ⟨c,0,none⟩)]] w (.tuple #[St r,.int .i64 E]):=by
 have r1:=λW hW=>zek a ha W hW;have r2:=λW hW=>zek b hb W hW;unfold zb1 at H;generalize numS a=x at r1⊢;generalize numS b=y at r2⊢;generalize zE a.num=s1 at H r1;generalize zE b.num=s2 at H r2;generalize zD a.den=t1 at H r1;generalize zD b.den=t2 at H r2;have R1:=hid r1;have R2:=hid r2;have HH:=hid H;have HW:=hid hw;clear r1 r2 H hw ha hb;go_enter Tryz.func36,Tryz.ntmps36;go_wp21;refine zzM (R1.out _ HW.out) λw1 hB1=>?_;have hB1':=hB1.alloc hB1.size (.cells #[.string ⟨s1.toArray⟩,.string ⟨t1.toArray⟩] 76);go_wp21;refine zzM (R2.out _ (HW.out.below hB1')) λw2 hb2=>?_;have hz1:=hB1.size;have z2:w1.heap.size<w2.heap.size:=by have:=hb2.size;simp at this;omega
 have hB2:=hB1'.trans (hb2.mono hB1'.size);have A2:w2.heap[w1.heap.size]? =some (.cells #[.string ⟨s1.toArray⟩,.string ⟨t1.toArray⟩] 76 (0,0)):=(hb2.block _ (by simp)).trans (zG w1 _);have A20:w2.cell? ⟨w1.heap.size,0,none⟩=some (.string ⟨s1.toArray⟩):=by simp[World.cell?,A2]
 have A21:w2.cell? ⟨w1.heap.size,1,none⟩=some (.string ⟨t1.toArray⟩):=by simp[World.cell?,A2]
 have hB3:=hB2.alloc hB2.size (.cells #[.string ⟨s2.toArray⟩,.string ⟨t2.toArray⟩] 76);clear hb2 A2 hB1 hB1';go_wp21;refine zzM (HH.out _ hB3 (HW.out.below hB3)) λw4 hb4=>?_;have hB4:=hB3.trans (hb4.mono hB3.size);clear hb4;go_wp21;go_ret2;exact⟨rfl,hB4⟩
theorem yfe (a b:Rat) (oa:okQ a) (ob:okQ b) (w:zA) (hw:Wd w):
 qJ 10 #[St (numS a),St (numS b)] w (.tuple #[St (if okAdd a b then numS (a+b) else[]),.int .i64 (if okAdd a b then 0 else 4)]):=by
 by_cases h:zbb a/\zbb b
 ·obtain⟨h1,h2⟩:=h
  have s1:sz a 8:=⟨(zaf a.num.natAbs 8 (by omega)).1 h1.1,(zaf a.den 8 (by omega)).1 h1.2⟩;have s2:sz b 8:=⟨(zaf b.num.natAbs 8 (by omega)).1 h2.1,(zaf b.den 8 (by omega)).1 h2.2⟩;have c1:=zcd (show 0<8 by omega) s1.1 s2.2;have c2:=zcd (show 0<8 by omega) s2.1 s1.2;have g:okAdd a b:=⟨by omega,by omega,by have:=zhz (show 0<16 by omega) c1 c2;omega,by rw[zd9];exact zO (zil (by omega) (zcc s1.2 s2.2)) (by omega)⟩;rw[if_pos g,if_pos g];exact zje a b 8 8 (by omega) (by omega) (by omega) s1 s2 w hw
 ·have hq:=λW=>zd1 43 a b h oa ob W
  have hbo:=λc W hW H=>zxy a b oa ob c (if okAdd a b then numS (a+b) else[]) (if okAdd a b then 0 else 4) W hW H;have hcb:∀(c:Nat) (W:zA),W.cell? ⟨c,0,none⟩=some (.func (.func 44) #[] #[])->Wd W->qJ 101 #[zb1 a,zb1 b,.pointer (some ⟨c,0,none⟩)] W (.tuple #[St (if okAdd a b then numS (a+b) else[]),.int .i64 (if okAdd a b then 0 else 4)]):=λc W hc hW=>by
   by_cases g:okAdd a b
   ·rw[if_pos g,if_pos g];exact zy8 a b oa ob g.1 g.2.1 g.2.2.1 (by have:=g.2.2.2;rwa [zd9] at this) c W hc hW
   ·rw[if_neg g,if_neg g];exact yfd a b oa ob g c W hc hW
  generalize numS a=x at hq hbo⊢;generalize numS b=y at hq hbo⊢;generalize (if okAdd a b then numS (a+b) else[])=r at hbo hcb⊢;generalize (if okAdd a b then(0:Int) else 4)=E at hbo hcb⊢;generalize zb1 a=pa at hbo hcb;generalize zb1 b=pb at hbo hcb;have HQ:=hid hq;have HBO:=hid hbo;have HCB:=hid hcb;have HW:=hid hw;clear hq hbo hcb oa ob h hw;go_enter Tryz.func10,Tryz.ntmps10;go_wp21;refine zzM (HQ.out _) λw1 hB1=>?_;go_wp21;refine(zk4 _ _).mono ?_;rintro e w2 ⟨t,rfl,rfl⟩;go_wp21;have hB2:=hB1.alloc hB1.size (.cells #[.func (.func 44) #[] #[]] t);have hc2:(w1.alloc (.cells #[.func (.func 44) #[] #[]] t)).cell? ⟨w1.heap.size,0,none⟩=some (.func (.func 44) #[] #[]):=by
   have:=zG w1 (.cells #[.func (.func 44) #[] #[]] t (0,0));simp only[World.cell?,this];rfl
  refine zzM (HBO.out _ _ (HW.out.below hB2) (λW hb hW=>HCB.out _ W ((hb.cell (p:=⟨w1.heap.size,0,none⟩) (by simp)).trans hc2) hW)) λw3 hb3=>?_;have hB3:=hB2.trans (hb3.mono hB2.size);clear hc2 hb3;go_wp21;go_ret2;exact⟨rfl,hB3⟩
theorem yff (a b:Rat) (ha:okQ a) (hb:okQ b) (h:¬okMul a b) (w:zA) (hw:Wd w):
 qJ 40 #[zb1 a,zb1 b] w (.tuple #[St [],.int .i64 4]):=by
 have key:(qK 41 #[St (zE a.num),St (zE b.num)] (.tuple #[St [],.int .i64 4]))\/
  ∃u:List UInt8,(qK 41 #[St (zE a.num),St (zE b.num)] (.tuple #[St u,.int .i64 0]))/\
   qK 41 #[St (zD a.den),St (zD b.den)] (.tuple #[St [],.int .i64 4]):=by
  have m1:=λW hW=>zhk a.num b.num ha.1 hb.1 W hW;by_cases h1:digs (a.num*b.num)<=300
  ·have h2:¬digs ((a.den*b.den:Nat):Int)<=300:=λh2=>h ⟨h1,h2⟩
   have m2:=λW hW=>zhk (a.den:Int) (b.den:Int) (by rw[zd9];exact ha.2) (by rw[zd9];exact hb.2) W hW;rw[<-Int.natCast_mul,Str.zad,Str.zad,zh8 h2,zh9 h2] at m2;rw[zcf h1,zcg h1] at m1;exact .inr ⟨_,m1,m2⟩
  ·rw[zh8 h1,zh9 h1] at m1
   exact .inl m1
 unfold zb1;generalize zE a.num=s1 at key⊢;generalize zE b.num=s2 at key⊢;generalize zD a.den=t1 at key⊢;generalize zD b.den=t2 at key⊢;have HW:=hid hw;clear hw h ha hb;obtain⟨W3,hW3⟩:=zzX ((w.alloc (.cells #[St s1,St t1] 76)).alloc (.cells #[St s2,St t2] 76));have hB0:qL w W3:=by rw[hW3];exact((zM _ w).alloc (zN _) _).alloc (by simp) _
 have z0:W3.heap.size=w.heap.size+1+1:=by rw[hW3];simp
 have A3:W3.heap[w.heap.size]? =some (.cells #[St s1,St t1] 76 (0,0)):=by
  rw[hW3];exact(Below.heap_alloc _ _ _ (by simp only[zH];omega)).trans (zG w _)
 have B3:W3.heap[w.heap.size+1]? =some (.cells #[St s2,St t2] 76 (0,0)):=by
  have:=zG (w.alloc (.cells #[St s1,St t1] 76)) (.cells #[St s2,St t2] 76 (0,0));rw[zH] at this;rw[hW3];exact this
 have HW3:=hid hW3;clear hW3;go_enter Tryz.func40,Tryz.ntmps40;go_wp21;rw[<-HW3.out];rcases key with m1|⟨u,m1,m2⟩
 ·refine zzM (m1 _ (HW.out.below hB0)) λw4 hb4=>?_
  have hB4:=hB0.trans (hb4.mono hB0.size);clear hb4 m1;go_wp21;go_ret2;exact⟨rfl,hB4⟩
 ·have M2:=hid m2;clear m2
  refine zzM (m1 _ (HW.out.below hB0)) λw4 hb4=>?_;have hB4:=hB0.trans (hb4.mono hB0.size);have A4:w4.heap[w.heap.size]? =some (.cells #[St s1,St t1] 76 (0,0)):=(hb4.block _ (by omega)).trans A3;have B4:w4.heap[w.heap.size+1]? =some (.cells #[St s2,St t2] 76 (0,0)):=(hb4.block _ (by omega)).trans B3;have A41:w4.cell? ⟨w.heap.size,1,none⟩=some (St t1):=by simp[World.cell?,A4]
  have B41:w4.cell? ⟨w.heap.size+1,1,none⟩=some (St t2):=by simp[World.cell?,B4]
  clear hb4 A3 B3 z0 m1;go_wp21;refine zzM (M2.out _ (HW.out.below hB4)) λw5 hb5=>?_;have hB5:=hB4.trans (hb5.mono hB4.size);clear hb5 A4 B4 A41 B41;go_wp21;go_ret2;exact⟨rfl,hB5⟩
theorem yfg (a b:Rat) (oa:okQ a) (ob:okQ b) (w:zA) (hw:Wd w):
 qJ 9 #[St (numS a),St (numS b)] w (.tuple #[St (if okMul a b then numS (a*b) else[]),.int .i64 (if okMul a b then 0 else 4)]):=by
 by_cases h:zbb a/\zbb b
 ·obtain⟨h1,h2⟩:=h
  have s1:sz a 8:=⟨(zaf a.num.natAbs 8 (by omega)).1 h1.1,(zaf a.den 8 (by omega)).1 h1.2⟩;have s2:sz b 8:=⟨(zaf b.num.natAbs 8 (by omega)).1 h2.1,(zaf b.den 8 (by omega)).1 h2.2⟩;have g:okMul a b:=⟨zO (zhd (k:=16) (by omega) (by rw[Int.natAbs_mul];exact zcc s1.1 s2.1)) (by omega),by rw[zd9];exact zO (zil (by omega) (zcc s1.2 s2.2)) (by omega)⟩;rw[if_pos g,if_pos g];exact zjf a b 8 8 (by omega) (by omega) (by omega) s1 s2 w hw
 ·have hq:=λW=>zd1 39 a b h oa ob W
  have hbo:=λW hW=>zgn 40 (enters_of Tryz.func40 (by kernel_rfl) rfl) a b oa ob (if okMul a b then numS (a*b) else[]) (E:=if okMul a b then 0 else 4) W hW (λW' _ hW'=>by
   by_cases g:okMul a b
   ·rw[if_pos g,if_pos g];exact zt7 a b oa ob g.1 (by have:=g.2;rwa [zd9] at this) W' hW'
   ·rw[if_neg g,if_neg g];exact yff a b oa ob g W' hW')
  generalize numS a=x at hq hbo⊢;generalize numS b=y at hq hbo⊢;generalize (if okMul a b then numS (a*b) else[])=r at hbo⊢;generalize (if okMul a b then(0:Int) else 4)=E at hbo⊢;have HQ:=hid hq;have HBO:=hid hbo;have HW:=hid hw;clear hq hbo oa ob h hw;go_enter Tryz.func9,Tryz.ntmps9;go_wp21;refine zzM (HQ.out _) λw1 hB1=>?_;go_wp21;refine zzM (HBO.out _ (HW.out.below hB1)) λw3 hb3=>?_;have hB3:=hB1.trans (hb3.mono hB1.size);clear hb3;go_wp21;go_ret2;exact⟨rfl,hB3⟩
theorem zmz (x xr y yr k m z:List UInt8) (is:Bool)
 (R:Hid (qK 114 #[St yr,St xr] (.tuple #[St k,.bool is,.int .i64 0])))
 (M:Hid (((qK 9 #[St y,St k] (.tuple #[St [],.int .i64 4])))\/
   (qK 9 #[St y,St k] (.tuple #[St m,.int .i64 0]))/\
   (qK 10 #[St x,St m] (.tuple #[St z,.int .i64 4]))))
 (w:zA) (HW:Hid (Wd w)):
 qJ 115 #[.agg #[St x,St xr],.agg #[St y,St yr]] w (.tuple #[.agg #[St [],St []],.int .i64 4]):=by
 have hS:=PlsS.start w x xr y yr;obtain⟨c0,c1,c2,c3,c4,c5,f0,f1⟩:=hS.cells;obtain⟨W1,hW1⟩:=zzX (((w.alloc (.cells #[St x,St xr] 87)).alloc (.cells #[St y,St yr] 87)).alloc (.cells #[St [],St []] 87));rw[<-hW1] at hS;have HS:=hid hS;have HW1:=hid hW1;clear hS hW1;go_enter Tryz.func115,Tryz.ntmps115;go_wp21;have h9:=HW1.out;rw[<-h9];clear h9 c0 c1 c2 c3 c4 c5 f0 f1;refine zzM (R.out W1 (HW.out.below HS.out.bel)) λw2 hb2=>?_;have H2:=hid (HS.out.next hb2);clear hb2 HS HW1;obtain⟨c0,c1,c2,c3,c4,c5,f0,f1⟩:=H2.out.cells;go_wp21;rcases M.out with M|⟨M,A⟩
 ·refine zzM (M w2 (HW.out.below H2.out.bel)) λw3 hb3=>?_
  have H3:=hid (H2.out.next hb3);clear hb3 H2 c0 c1 c2 c3 c4 c5 f0 f1 M;obtain⟨c0,c1,c2,c3,c4,c5,f0,f1⟩:=H3.out.cells;have hB4:=H3.out.bel;go_wp21;refine bodyPost_ret (v:=.tuple #[.agg #[St [],St []],.int .i64 4]) (by simp[results,Tryz.results115,go_sem,c4,c5]) rfl ⟨rfl,?_⟩
  repeat(first|exact hB4|refine Below.setCell ?_ (by simp;omega) _)
 ·have AA:=hid A
  refine zzM (M w2 (HW.out.below H2.out.bel)) λw3 hb3=>?_;have H3:=hid (H2.out.next hb3);clear hb3 H2 c0 c1 c2 c3 c4 c5 f0 f1 M A;obtain⟨c0,c1,c2,c3,c4,c5,f0,f1⟩:=H3.out.cells;go_wp21;refine zzM (AA.out w3 (HW.out.below H3.out.bel)) λw4 hb4=>?_;have H4:=hid (H3.out.next hb4);clear hb4 H3 c0 c1 c2 c3 c4 c5 f0 f1;obtain⟨c0,c1,c2,c3,c4,c5,f0,f1⟩:=H4.out.cells;have hB4:=H4.out.bel;go_wp21;refine bodyPost_ret (v:=.tuple #[.agg #[St [],St []],.int .i64 4]) (by simp[results,Tryz.results115,go_sem,c4,c5]) rfl ⟨rfl,?_⟩
  repeat(first|exact hB4|refine Below.setCell ?_ (by simp;omega) _)
theorem ygw (gb:Nat) (l:List (List UInt8×List UInt8)) (x xr y yr z zr:List UInt8) (kk:ByteArray) (j:Nat) (nn E:Int) (o:Bool) (hl:l.length<=5000) (hj:l[j]? =some (y,yr)) (hnn:decide (nn<0)=o)
 (R:Hid (∀(i:Nat) (c:List UInt8×List UInt8),i<j->l[i]? =some c->∃k,qK 114 #[St xr,St c.2] (.tuple #[.string k,.bool false,.int .i64 0])))
 (R1:Hid (qK 114 #[St xr,St yr] (.tuple #[.string kk,.bool true,.int .i64 0])))
 (CM:Hid (qK 18 #[St xr,St yr] (.tuple #[.int .i64 nn,.int .i64 0])))
 (P:Hid (qK 115 #[bif o then .agg #[St x,St xr] else .agg #[St y,St yr],bif o then .agg #[St y,St yr] else .agg #[St x,St xr]] (.tuple #[.agg #[St z,St zr],.int .i64 E])))
 (w:zA) (HW:Hid (Wd w)) (HG:Hid (GatL gb l w)):
 zC zF 48 #[.pointer (some ⟨gb,0,none⟩),.agg #[St x,St xr]] w λe w'=>e=.returned (.int .i64 E)/\zB gb w w'/\GatL gb (l.set j (z,zr)) w':=by
 obtain⟨p,cap,g0,o0,r0⟩:=HG.out.row;have hlt:=zbe g0;obtain⟨W1,hW1⟩:=zzX (w.alloc (.cells #[St x,St xr] 37));have hb1:qL w W1:=by rw[hW1];exact(zM _ w).alloc (zN _) _
 have A1:W1.heap[w.heap.size]? =some (.cells #[St x,St xr] 37 (0,0)):=by rw[hW1];exact zG w _
 have c0:=zai hb1 g0;rw[hW1] at c0;have HW1:=hid hW1.symm;have HB1:=hid hb1;have HA1:=hid A1;have HR0:=hid r0;have HO:=hid o0;have HG0:=hid g0;obtain⟨n,hn⟩:=zzX l.length;have hjn:j<n:=by rw[hn];exact(List.getElem?_eq_some_iff.1 hj).1
 rw[<-hn] at c0 hl HO HG0;have HN:=hid hn;have HJ:=hid hj;clear hW1 hb1 A1 r0 o0 g0 hn hj;go_enter Tryz.func48,Tryz.ntmps48;go_wp21;rw[HW1.out];clear c0 HW1;go_loopw [19] (λi wr=>∃(k:Nat),k<=j/\i=.int .i64 (k:Int)/\Hid (qL w wr)/\Hid (wr.heap[w.heap.size]? =some (.cells #[St x,St xr] 37 (0,0))))
  (λi _=>n-(zL i).toNat)
 case atStart=>exact⟨0,zR _,rfl,HB1,HA1⟩
 case round=>
  obtain⟨k,hk,rfl,hB,hT⟩:=hrel;have hlt:k<n:=by omega
  by_cases hkj:k<j
  ·obtain⟨c,hc⟩:∃c,l[k]? =some c:=⟨_,yB (by rw[<-HN.out];exact hlt)⟩
   obtain⟨g,rfl,c0,c1⟩:=(HR0.out.keep (zac hB.out)) k c hc;obtain⟨q,hR⟩:=R.out k c hkj hc;obtain⟨u,ur⟩:=c;have HRT:=hid hR;clear hR hc;simp only at c0 c1 HRT;obtain⟨v1,hv⟩:=zzX (wr.alloc (.cells #[St u,St ur] 87));have a1:qL wr v1:=by rw[hv];exact(zM _ wr).alloc (zN _) _
   have A1:v1.heap[wr.heap.size]? =some (.cells #[St u,St ur] 87 (0,0)):=by rw[hv];exact zG wr _
   have T1:=zac a1 _ _ _ _ hT.out;have k1:v1.cell? ⟨wr.heap.size,1,none⟩=some (St ur):=by rw[zJ A1];rfl
   have t1:v1.cell? ⟨w.heap.size,1,none⟩=some (St xr):=by rw[zJ T1];rfl
   have E1:=hid (hB.out.trans (a1.mono hB.out.size));have HT1:=hid T1;rw[hv] at k1 t1;have HV:=hid hv.symm;clear hv a1 A1 T1;go_wp21;rw[HV.out];clear k1 t1 HV c0 c1;refine zzM (HRT.out v1 (HW.out.below E1.out)) λw2 hb2=>?_;have hB2:=hid (E1.out.trans (hb2.mono E1.out.size));have hT2:=hid (zac hb2 _ _ _ _ HT1.out);clear hb2 HRT E1 HT1;go_wp21;go_roundw
   case rel=>exact⟨k+1,by omega,by go_num,hB2,hT2⟩
   case measure=>simp[zL];omega
  ·have hkn:k=j:=by omega
   subst hkn;obtain⟨g,rfl,c0,c1⟩:=(HR0.out.keep (zac hB.out)) k (y,yr) HJ.out;simp only at c0 c1;obtain⟨v1,hv⟩:=zzX (wr.alloc (.cells #[St y,St yr] 87));have hvs:wr.heap.size+1=v1.heap.size:=by rw[hv];simp
   have a1:qL wr v1:=by rw[hv];exact(zM _ wr).alloc (zN _) _
   have A1:v1.heap[wr.heap.size]? =some (.cells #[St y,St yr] 87 (0,0)):=by rw[hv];exact zG wr _
   have T1:=zac a1 _ _ _ _ hT.out;have k1:v1.cell? ⟨wr.heap.size,1,none⟩=some (St yr):=by rw[zJ A1];rfl
   have t1:v1.cell? ⟨w.heap.size,1,none⟩=some (St xr):=by rw[zJ T1];rfl
   have E1:=hid (hB.out.trans (a1.mono hB.out.size));have HT1:=hid T1;have HK1:=hid A1;rw[hv] at k1 t1;have HV:=hid hv.symm;clear hv a1 A1 T1;go_wp21;rw[HV.out];clear k1 t1 HV c0 c1;refine zzM (R1.out v1 (HW.out.below E1.out)) λw2 hb2=>?_;have E2:=hid (E1.out.trans (hb2.mono E1.out.size));have HT2:=hid (zac hb2 _ _ _ _ HT1.out);have hlw2:wr.heap.size<w2.heap.size:=zS (by omega) hb2.size;have HK2:=hid (zac hb2 _ _ _ _ HK1.out);clear hb2 R1 E1 HT1 HK1;have t0:w2.cell? ⟨w.heap.size,0,none⟩=some (St x):=by rw[zJ HT2.out];rfl
   have t1:w2.cell? ⟨w.heap.size,1,none⟩=some (St xr):=by rw[zJ HT2.out];rfl
   obtain⟨w3,hw3⟩:=zzX (w2.alloc (.cells #[St x,St xr] 87));have b3:qL w2 w3:=by rw[hw3];exact(zM _ w2).alloc (zN _) _
   have A3:w3.heap[w2.heap.size]? =some (.cells #[St x,St xr] 87 (0,0)):=by rw[hw3];exact zG w2 _
   have E3:=hid (E2.out.trans (b3.mono E2.out.size));have HK3:=hid (zac b3 _ _ _ _ HK2.out);have p1:w3.cell? ⟨wr.heap.size,1,none⟩=some (St yr):=by rw[zJ HK3.out];rfl
   have p2:w3.cell? ⟨w2.heap.size,1,none⟩=some (St xr):=by rw[zJ A3];rfl
   rw[hw3] at p1 p2;have HA3:=hid A3;have HW3:=hid hw3.symm;clear hw3 b3 A3;go_wp21;rw[HW3.out];clear t0 t1 p1 p2 HW3 E2 HK2 HT2;refine zzM (CM.out w3 (HW.out.below E3.out)) λw4 hb4=>?_;have E4:=hid (E3.out.trans (hb4.mono E3.out.size));have HK4:=hid (zac hb4 _ _ _ _ HK3.out);have HA4:=hid (zac hb4 _ _ _ _ HA3.out);clear hb4 E3 HK3 HA3 CM;have hlow:=hB.out.size;have l0:w4.cell? ⟨wr.heap.size,0,none⟩=some (St y):=by rw[zJ HK4.out];rfl
   have l1:w4.cell? ⟨wr.heap.size,1,none⟩=some (St yr):=by rw[zJ HK4.out];rfl
   have p0:w4.cell? ⟨w2.heap.size,0,none⟩=some (St x):=by rw[zJ HA4.out];rfl
   have p1:w4.cell? ⟨w2.heap.size,1,none⟩=some (St xr):=by rw[zJ HA4.out];rfl
   cases o
   case' true=>
    have hab:wr.heap.size<w2.heap.size:=hlw2;have f0:w4.frozen? ⟨wr.heap.size,0,none⟩=false:=Go.Joins.unfrozen_of_block HK4.out 0;have f1:w4.frozen? ⟨wr.heap.size,1,none⟩=false:=Go.Joins.unfrozen_of_block HK4.out 1;have f2:w4.frozen? ⟨w2.heap.size,0,none⟩=false:=Go.Joins.unfrozen_of_block HA4.out 0;have f3:w4.frozen? ⟨w2.heap.size,1,none⟩=false:=Go.Joins.unfrozen_of_block HA4.out 1;obtain⟨v4,hv4⟩:=zzX ((((w4.setCell ⟨wr.heap.size,0,none⟩ (St x)).setCell ⟨wr.heap.size,1,none⟩ (St xr)).setCell ⟨w2.heap.size,0,none⟩ (St y)).setCell ⟨w2.heap.size,1,none⟩ (St yr));have V1:v4.heap[wr.heap.size]? =some (.cells #[St x,St xr] 87 (0,0)):=by
     rw[hv4,yE _ _ _ _ (by show wr.heap.size≠w2.heap.size;omega),yE _ _ _ _ (by show wr.heap.size≠w2.heap.size;omega)];exact zK (i:=1) (zK (i:=0) HK4.out _) _
    have V2:v4.heap[w2.heap.size]? =some (.cells #[St y,St yr] 87 (0,0)):=by
     have hA:((w4.setCell ⟨wr.heap.size,0,none⟩ (St x)).setCell ⟨wr.heap.size,1,none⟩ (St xr)).heap[w2.heap.size]? =some (.cells #[St x,St xr] 87 (0,0)):=by
      rw[yE _ _ _ _ (by show w2.heap.size≠wr.heap.size;omega),yE _ _ _ _ (by show w2.heap.size≠wr.heap.size;omega)];exact HA4.out
     rw[hv4];exact zK (i:=1) (zK (i:=0) hA _) _
    have VB:qL w v4:=by
     rw[hv4];exact(((E4.out.setCell (by show w.heap.size<=wr.heap.size;omega) _).setCell (by show w.heap.size<=wr.heap.size;omega) _).setCell (by show w.heap.size<=w2.heap.size;omega) _).setCell (by show w.heap.size<=w2.heap.size;omega) _
    have q0:v4.cell? ⟨wr.heap.size,0,none⟩=some (St x):=by rw[zJ V1];rfl
    have q1:v4.cell? ⟨wr.heap.size,1,none⟩=some (St xr):=by rw[zJ V1];rfl
    have q2:v4.cell? ⟨w2.heap.size,0,none⟩=some (St y):=by rw[zJ V2];rfl
    have q3:v4.cell? ⟨w2.heap.size,1,none⟩=some (St yr):=by rw[zJ V2];rfl
    rw[hv4] at q0 q1 q2 q3;have u1:(w4.setCell ⟨wr.heap.size,0,none⟩ (St x)).frozen? ⟨wr.heap.size,1,none⟩=false:=by rw[World.frozen?_setCell];exact f1
    have u2:((w4.setCell ⟨wr.heap.size,0,none⟩ (St x)).setCell ⟨wr.heap.size,1,none⟩ (St xr)).frozen? ⟨w2.heap.size,0,none⟩=false:=by rw[World.frozen?_setCell,World.frozen?_setCell];exact f2
    have u3:(((w4.setCell ⟨wr.heap.size,0,none⟩ (St x)).setCell ⟨wr.heap.size,1,none⟩ (St xr)).setCell ⟨w2.heap.size,0,none⟩ (St y)).frozen? ⟨w2.heap.size,1,none⟩=false:=by rw[World.frozen?_setCell,World.frozen?_setCell,World.frozen?_setCell];exact f3
    have HV4:=hid hv4.symm;have HVB:=hid VB;clear hv4 V1 V2 VB;go_wp21;rw[HV4.out];clear l0 l1 p0 p1 f0 f1 f2 f3 q0 q1 q2 q3 u1 u2 u3 HV4 E4 HK4 HA4
   case' false=>
    have HVB:=E4;clear E4 HK4 HA4 hlow hlw2;go_wp21;clear l0 l1 p0 p1
   all_goals
    refine zzM (P.out _ (HW.out.below HVB.out)) λw5 hb5=>?_;have E5:=qT HVB hb5;clear hb5 HVB P;obtain⟨w6,hw6⟩:=zzX (w5.alloc (.cells #[St z,St zr] 87));have b6:qL w5 w6:=by rw[hw6];exact(zM _ w5).alloc (zN _) _
    have A6:w6.heap[w5.heap.size]? =some (.cells #[St z,St zr] 87 (0,0)):=by rw[hw6];exact zG w5 _
    have hB6:=E5.out.trans (b6.mono E5.out.size);have HW6:=hid hw6.symm;clear hw6 b6;go_wp21;rw[HW6.out];clear HW6;obtain⟨g',e',r0,r1⟩:=(HR0.out.keep (zac hB6)) k (y,yr) HJ.out;obtain rfl:g=g':=by cases e';rfl
    have hgs:gb<w.heap.size:=zbe HG0.out;have m0:w6.drew.cell? ⟨gb,0,none⟩=some (.slice (some ⟨g,0,none⟩) n cap):=zai hB6 HG0.out;have m2:w6.drew.cell? ⟨g,k*2,none⟩=some (St y):=r0;have m3:w6.drew.cell? ⟨g,k*2+1,none⟩=some (St yr):=r1;have o6:w6.drew.ownsRow (gb+1) 87 2 (.slice (some ⟨g,0,none⟩) n cap) n (zbj l):=zcj (zac hB6) HO.out;have hgg:gb<g:=(o6.lt g rfl).1;have m4:w6.drew.frozen? ⟨g,k*2,none⟩=false:=z42 o6 _;have m5:w6.drew.frozen? ⟨g,k*2+1,none⟩=false:=z42 o6 _;have m6:w6.drew.cell? ⟨w5.heap.size,0,none⟩=some (St z):=by rw[zJ (show w6.drew.heap[w5.heap.size]? =_ from A6)];rfl
    have m7:w6.drew.cell? ⟨w5.heap.size,1,none⟩=some (St zr):=by rw[zJ (show w6.drew.heap[w5.heap.size]? =_ from A6)];rfl
    have n2:w6.cell? ⟨g,k*2,none⟩=some (St y):=m2;have n3:w6.cell? ⟨g,k*2+1,none⟩=some (St yr):=m3;have n4:w6.frozen? ⟨g,k*2,none⟩=false:=m4;have n5:w6.frozen? ⟨g,k*2+1,none⟩=false:=m5;have HF:=hid ((zac hB6).frozen HG0.out HG.out.fr);have HO6:=hid o6;have HM0:=hid m0;have HB6:=hid hB6;clear R HR0 HB1 HA1 HG r0 r1 e' o6 hT hB;refine zc4 (λ(_:Unit) i=>([.pointer (some ⟨gb,0,none⟩),.pointer (some ⟨gb,0,none⟩),.pointer (some ⟨gb,0,none⟩),.slice (some ⟨g,0,none⟩) n cap,.int .i64 (k:Int),.agg #[St z,St zr],.pointer (some ⟨g,k*2,none⟩)]:List Value).getD i undef) (λ_ f W'=>(f 7=false->W'=w6.drew)/\(f 7=true->W'=((w6.drew.setCell ⟨g,k*2,none⟩ (St z)).setCell ⟨g,k*2+1,none⟩ (St zr)))) (by kernel_rfl) (by kernel_rfl) () ⟨λ_=>rfl,λh=>(by cases h)⟩ λb=>?_;refine qB (.pointer (some ⟨gb,0,none⟩)) (λf W' h=>⟨h.1,h.2⟩) ?_ (hy:=λf W' hf h=>by
     obtain rfl:=h.1 (hf.no (j:=7) hf.self (by kernel_rfl));go_simp)
    refine qB (.pointer (some ⟨gb,0,none⟩)) (λf W' h=>⟨h.1,h.2⟩) ?_ (hy:=λf W' hf h=>by
     obtain rfl:=h.1 (hf.no (j:=7) hf.self (by kernel_rfl));go_simp)
    refine qB (.pointer (some ⟨gb,0,none⟩)) (λf W' h=>⟨h.1,h.2⟩) ?_ (hy:=λf W' hf h=>by
     obtain rfl:=h.1 (hf.no (j:=7) hf.self (by kernel_rfl));go_simp)
    try simp only[zzQ]
    refine qB (.slice (some ⟨g,0,none⟩) n cap) (λf W' h=>⟨h.1,h.2⟩) ?_ (hy:=λf W' hf h=>by
     obtain rfl:=h.1 (hf.no (j:=7) hf.self (by kernel_rfl));go_simp)
    refine qB (.int .i64 (k:Int)) (λf W' h=>⟨h.1,h.2⟩) ?_ (hy:=λf W' hf h=>by
     obtain rfl:=h.1 (hf.no (j:=7) hf.self (by kernel_rfl));go_simp)
    refine qB (.agg #[St z,St zr]) (λf W' h=>⟨h.1,h.2⟩) ?_ (hy:=λf W' hf h=>by
     obtain rfl:=h.1 (hf.no (j:=7) hf.self (by kernel_rfl));go_simp)
    try simp only[zzQ]
    refine qB (.pointer (some ⟨g,k*2,none⟩)) (λf W' h=>⟨h.1,h.2⟩) ?_ (hy:=λf W' hf h=>by
     obtain rfl:=h.1 (hf.no (j:=7) hf.self (by kernel_rfl));go_simp)
    try simp only[zzQ]
    refine zbv undef (by rfl) (by rfl) (λf W' hf h C' hC'=>by
     obtain rfl:=h.1 hf.self;have:=hC' ((w6.drew.setCell ⟨g,k*2,none⟩ (St z)).setCell ⟨g,k*2+1,none⟩ (St zr)) ⟨λk=>(by cases k),λ_=>rfl⟩;go_simp;exact this) ?_
    try simp only[Act.put]
    refine ze1 λf X hf h=>?_;obtain rfl:=h.2 (hf 7 (by decide));have hbel:zB gb w ((w6.drew.setCell ⟨g,k*2,none⟩ (St z)).setCell ⟨g,k*2+1,none⟩ (St zr)):=
     (((HB6.out.mono (by omega)).drew).setCell (by simp;omega) _).setCell (by simp;omega) _
    have hgate:GatL gb (l.set k (z,zr)) ((w6.drew.setCell ⟨g,k*2,none⟩ (St z)).setCell ⟨g,k*2+1,none⟩ (St zr)):=by
     refine⟨⟨_,by rw[zau _ _ _ _ (by omega),zau _ _ _ _ (by omega)];exact HM0.out,?_⟩,?_⟩
     ·rw[List.length_set,<-HN.out];exact z6l HO6.out HN.out (by omega)
     ·rw[World.frozen?_setCell,World.frozen?_setCell];exact HF.out
    have HE:=hid (⟨hbel,hgate⟩:zB gb w ((w6.drew.setCell ⟨g,k*2,none⟩ (St z)).setCell ⟨g,k*2+1,none⟩ (St zr))/\GatL gb (l.set k (z,zr)) ((w6.drew.setCell ⟨g,k*2,none⟩ (St z)).setCell ⟨g,k*2+1,none⟩ (St zr)));clear hbel hgate m0 m2 m3 m4 m5 m6 m7 n2 n3 n4 n5 h hf;go_wp21;go_ret;exact⟨rfl,HE.out⟩
structure VisF (F:Prop) (gb:Nat) (c r:List UInt8) (S S':zA->Prop) (one:Bool) (k n m:List UInt8) (ln:Int):Prop where
 cz:(c==[48])=false
 rz:(r==[48])=false
 n1:(r==[49])=one
 kn:one=true->k=[49]/\n=r
 norm:one=false->∀W:zA,Wd W->Pw W->qJ 113 #[St r] W (.tuple #[St k,St n,.int .i64 0])
 lng:qK 49 #[St n] (.int .i64 ln)
 keep:∀W W':zA,S W->qL W W'->S W'
 rest:(90<ln/\F)\/(ln<=90/\(qK 9 #[St c,St k] (.tuple #[St m,.int .i64 0]))/\
  ∀W:zA,Wd W->S W->zC zF 48 #[.pointer (some ⟨gb,0,none⟩),.agg #[St m,St n]] W λe w'=>∃r:Int,e=.returned (.int .i64 r)/\zB gb W w'/\((r=0/\S' w')\/(r=4/\F)))
theorem ygx (F:Prop) (gb:Nat) (p:Option Addr) (cap n:Nat) (X Y:Nat->List UInt8) (S:Nat->zA->Prop) (hn:n<=5000)
 (V:Hid (∀i,i<n->∃one k n m ln,VisF F gb (X i) (Y i) (S i) (S (i+1)) one k n m ln))
 (w:zA) (hgb:gb<=w.heap.size) (HW:Hid (∀W,zB gb w W->Wd W)) (HP:Hid (∀W,zB gb w W->Pw W)) (h0:S 0 w)
 (HT:Hid (∀i,i<n->∃b off,p=some ⟨b,off,none⟩/\b<gb/\w.cell? ⟨b,off+i*2,none⟩=some (St (X i))/\w.cell? ⟨b,off+i*2+1,none⟩=some (St (Y i)))):
 zC zF 47 #[.slice p n cap,.func (.func 48) #[.pointer (some ⟨gb,0,none⟩)] #[]] w λe w'=>∃r:Int,e=.returned (.int .i64 r)/\zB gb w w'/\((r=0/\S n w')\/(r=4/\F)):=by
 have D0:=hid (zM gb w);have s0:=hid h0;have g0:=hid hgb;clear h0 hgb;go_enter Tryz.func47,Tryz.ntmps47;go_wp21;go_loopw [13] (λi wr=>∃(k:Nat),k<=n/\i=.int .i64 (k:Int)/\Hid (zB gb w wr)/\Hid (gb<=wr.heap.size)/\Hid (S k wr))
  (λi _=>n-(zL i).toNat)
 case atStart=>exact⟨0,zR _,rfl,D0,g0,s0⟩
 case round=>
  obtain⟨k,hk,rfl,D1,g1,s1⟩:=hrel;by_cases hlt:k<n
  ·obtain⟨b,off,rfl,hb,c0,c1⟩:=HT.out k hlt
   obtain⟨one,kk,nr,m,ln,HV⟩:=V.out k hlt;have R1:=hid HV;generalize X k=x at*
   generalize Y k=y at*
   have cz:=HV.cz;have rz:=HV.rz;have n1:=HV.n1;have t0:wr.cell? ⟨b,off+k*2,none⟩=some (St x):=by rw[D1.out.cell (p:=⟨b,off+k*2,none⟩) hb];exact c0
   have t1:wr.cell? ⟨b,off+k*2+1,none⟩=some (St y):=by rw[D1.out.cell (p:=⟨b,off+k*2+1,none⟩) hb];exact c1
   obtain⟨v1,hv⟩:=zzX (wr.alloc (.cells #[St x,St y] 37));have a1:qL wr v1:=by rw[hv];exact(zM _ wr).alloc (zN _) _
   have A1:v1.heap[wr.heap.size]? =some (.cells #[St x,St y] 37 (0,0)):=by rw[hv];exact zG wr _
   have k0:v1.cell? ⟨wr.heap.size,0,none⟩=some (St x):=by rw[zJ A1];rfl
   have k1:v1.cell? ⟨wr.heap.size,1,none⟩=some (St y):=by rw[zJ A1];rfl
   have k0':=k0;have k1':=k1;rw[hv] at k0 k1;have HV1:=hid hv.symm;have E1:=hid a1;have B1:=hid A1;clear hv a1 A1 HV c0 c1 hb;go_wp21;rw[HV1.out];clear t0 t1 k0 k1 HV1
   (refine wp_region_quiet_lit (by kernel_rfl) (by kernel_rfl) (WQ.out ?_);(repeat(first|(apply WQ.read (by rfl);(focus(rintro W ⟨n,rfl⟩;go_simp;try with_reducible rfl));try simp only[zzQ])|(apply WQ.skip (by rfl);try simp only[zzQ])));refine WQ.nil ?_;rintro _ ⟨nq,rfl⟩)
   have E2:=hid (zao E1.out nq);have B2:=hid (show(v1.drewN nq).heap[wr.heap.size]? =_ from B1.out);clear E1 B1;cases one
   case' false=>
    go_wp21;refine zzM (R1.out.norm rfl _ (HW.out _ (D1.out.trans (E2.out.mono g1.out))) (HP.out _ (D1.out.trans (E2.out.mono g1.out)))) λy1 hb1=>?_;have E3:=hid (E2.out.trans (hb1.mono E2.out.size));have B3:=hid (zac hb1 _ _ _ _ B2.out);clear hb1 E2 B2 k0' k1' cz rz n1
   case' true=>
    obtain⟨rfl,rfl⟩:=R1.out.kn rfl;have E3:=E2;have B3:=B2;clear E2 B2
   all_goals
    go_wp21
    try clear k0' k1' cz rz n1
    refine zzM (R1.out.lng _ (HW.out _ (D1.out.trans (E3.out.mono g1.out)))) λy2 hb1=>?_;have E4:=hid (E3.out.trans (hb1.mono E3.out.size));have B4:=hid (zac hb1 _ _ _ _ B3.out);clear hb1 E3 B3;rcases R1.out.rest with⟨hl,hF⟩|⟨hl,hM,hE⟩
    ·have hl9:decide (90<ln)=true:=decide_eq_true hl
     have HF:=hid (⟨D1.out.trans (E4.out.mono g1.out),hF⟩:_/\_);clear hF B4;go_wp21;go_ret;exact⟨4,rfl,HF.out.1,.inr ⟨rfl,HF.out.2⟩⟩
    ·have hl9:decide (90<ln)=false:=decide_eq_false (by omega)
     have HM:=hid hM;have HE:=hid hE;clear hM hE;have k0:y2.cell? ⟨wr.heap.size,0,none⟩=some (St x):=by rw[zJ B4.out];rfl
     go_wp21;refine zzM (HM.out y2 (HW.out _ (D1.out.trans (E4.out.mono g1.out)))) λy3 hb1=>?_;have E5:=hid (E4.out.trans (hb1.mono E4.out.size));clear hb1 E4 B4 k0 HM;go_wp21;refine(HE.out y3 (HW.out _ (D1.out.trans (E5.out.mono g1.out))) (R1.out.keep _ _ s1.out E5.out)).mono ?_;rintro e u1 ⟨r,rfl,hb1,hs⟩;have D2:=hid ((D1.out.trans (E5.out.mono g1.out)).trans hb1);have g2:Hid (gb<=u1.heap.size):=hid (zO g1.out (zO E5.out.size hb1.size));rcases hs with⟨rfl,hs⟩|⟨rfl,hF⟩
     ·have s2:=hid hs
      clear hb1 hs E5 s1 R1 HT HE;go_wp21;go_roundw
      case rel=>exact⟨k+1,by omega,by go_num,D2,g2,s2⟩
      case measure=>simp[zL];omega
     ·have HF:=hid hF
      clear hb1 hF E5 s1 R1 HT HE;go_wp21;go_ret;exact⟨4,rfl,D2.out,.inr ⟨rfl,HF.out⟩⟩
  ·have hkn:k=n:=by omega
   subst hkn;go_wp21;go_ret;exact⟨0,rfl,D1.out,.inl ⟨rfl,s1.out⟩⟩
theorem z0i (F:Prop) (p:Option Addr) (cap n:Nat) (X Y:Nat->List UInt8) (L M:List (List UInt8×List UInt8)) (j0:Nat) (hn:n<=256) (hm:L.length<=5000)
 (CK:Hid (∀i,i<n->qK 45 #[St (X i)] (.int .i64 0)))
 (RK:Hid (∀i,i<n->qK 45 #[St (Y i)] (.int .i64 0)))
 (PF:Hid (∀i,i<n->∀W:zA,zC zF 46 #[St (Y i),.string ⟨#[45]⟩] W λe w'=>e=.returned (.bool false)/\w'=W))
 (w:zA) (HW:Hid (∀W,qL w W->Wd W))
 (HT:Hid (∀i,i<n->∃b off,p=some ⟨b,off,none⟩/\b<w.heap.size/\w.cell? ⟨b,off+i*2,none⟩=some (St (X i))/\w.cell? ⟨b,off+i*2+1,none⟩=some (St (Y i))))
 (VIS:Hid (∀u vg:zA,qL w u->qL u vg->vg.heap.size=u.heap.size+1->GatL u.heap.size [] vg->zC zF 47 #[.slice p n cap,.func (.func 48) #[.pointer (some ⟨u.heap.size,0,none⟩)] #[]] vg λe w'=>∃r:Int,e=.returned (.int .i64 r)/\zB u.heap.size vg w'/\((r=0/\GatL u.heap.size L w')\/(r=4/\F))))
 (LG:Hid (∀(i:Nat) (c:List UInt8×List UInt8),i<j0->L[i]? =some c->(c.1==[48])=false->∃a b:Int,(qK 49 #[St c.1] (.int .i64 a))/\(qK 49 #[St c.2] (.int .i64 b))/\decide (60<a)=false/\decide (40<b)=false))
 (END:Hid ((j0=L.length/\(zin L).length<=16/\∀(B:Nat) (W:zA) (q:Option Addr) (c:Nat),qL w W->w.heap.size<=B->B<=W.heap.size->W.ownsRow B 37 2 (.slice q (zin L).length c) (zin L).length (zbj (zin L))->zC zF 50 #[.slice q (zin L).length c,.func (.func 51) #[] #[]] W λe w'=>(∃u,e=.returned u)/\zB B W w'/\w'.ownsRow B 37 2 (.slice q (zin L).length c) (zin L).length (zbj M))\/∃(bx br:List UInt8) (a0 b0:Int),L[j0]? =some (bx,br)/\(bx==[48])=false/\(60<a0\/(a0<=60/\40<b0))/\(qK 49 #[St bx] (.int .i64 a0))/\qK 49 #[St br] (.int .i64 b0))):
 zC zF 11 #[.slice p n cap] w λe w'=>∃q m c r,e=.returned (.tuple #[.slice q m c,.int .i64 r])/\zB w.heap.size w w'/\((r=0/\j0=L.length/\m=(zin L).length/\w'.ownsRow w.heap.size 37 2 (.slice q m c) m (zbj M))\/(r=4/\(j0<L.length\/F)/\q=none/\m=0/\c=0)):=by
 obtain⟨i0,hi,hz0,hz1,hz2⟩:=info_parts zsc;have D0:=hid (zM w.heap.size w);go_enter Tryz.func11,Tryz.ntmps11;go_wp21;go_loopw [18] (λi wr=>∃(k:Nat),k<=n/\i=.int .i64 (k:Int)/\Hid (qL w wr))
  (λi _=>n-(zL i).toNat)
 case atStart=>exact⟨0,zR _,rfl,D0⟩
 case round=>
  obtain⟨k,hk,rfl,D1⟩:=hrel;by_cases hlt:k<n
  ·obtain⟨b,off,rfl,hb,c0,c1⟩:=HT.out k hlt
   have C1:=hid (CK.out k hlt);have C2:=hid (RK.out k hlt);have C3:=hid (PF.out k hlt);generalize X k=x at*
   generalize Y k=y at*
   have t0:wr.cell? ⟨b,off+k*2,none⟩=some (St x):=by rw[D1.out.cell (p:=⟨b,off+k*2,none⟩) hb];exact c0
   have t1:wr.cell? ⟨b,off+k*2+1,none⟩=some (St y):=by rw[D1.out.cell (p:=⟨b,off+k*2+1,none⟩) hb];exact c1
   obtain⟨v1,hv⟩:=zzX (wr.alloc (.cells #[St x,St y] 37));have a1:qL wr v1:=by rw[hv];exact(zM _ wr).alloc (zN _) _
   have A1:v1.heap[wr.heap.size]? =some (.cells #[St x,St y] 37 (0,0)):=by rw[hv];exact zG wr _
   have k0:v1.cell? ⟨wr.heap.size,0,none⟩=some (St x):=by rw[zJ A1];rfl
   rw[hv] at k0;have HV1:=hid hv.symm;have E1:=hid (D1.out.trans (a1.mono D1.out.size));have B1:=hid A1;clear hv a1 A1 c0 c1 hb;go_wp21;rw[HV1.out];clear t0 t1 k0 HV1;refine zzM (C1.out v1 (HW.out _ E1.out)) λy1 hb1=>?_;have E2:=hid (E1.out.trans (hb1.mono E1.out.size));have B2:=hid (zac hb1 _ _ _ _ B1.out);clear hb1 E1 B1;have k1:y1.cell? ⟨wr.heap.size,1,none⟩=some (St y):=by rw[zJ B2.out];rfl
   go_wp21;refine zzM (C2.out y1 (HW.out _ E2.out)) λy2 hb1=>?_;have E3:=hid (E2.out.trans (hb1.mono E2.out.size));have B3:=hid (zac hb1 _ _ _ _ B2.out);clear hb1 k1 E2 B2;have k1:y2.cell? ⟨wr.heap.size,1,none⟩=some (St y):=by rw[zJ B3.out];rfl
   go_wp21;refine zzM (C3.out y2) λu1 hw1=>?_;have D2:Hid (qL w u1):=hid (by rw[hw1];exact E3.out);clear hw1 k1 E3 B3;go_wp21;go_roundw
   case rel=>exact⟨k+1,by omega,by go_num,D2⟩
   case measure=>simp[zL];omega
  ·have hkn:k=n:=by omega
   subst hkn;go_wp21;have N0:qL wr (wr.alloc (.cells #[.slice none 0 0] 83)):=(zM _ wr).alloc (zN _) _;have NA:=zG wr (.cells #[.slice none 0 0] 83);have NZ:(wr.alloc (.cells #[.slice none 0 0] 83)).heap.size=wr.heap.size+1:=by simp
   generalize wr.alloc (.cells #[.slice none 0 0] 83)=vg at*
   have HV:=hid (VIS.out wr vg D1.out N0 NZ ⟨⟨_,by rw[zJ NA];rfl,World.ownsRow_nil _ _ _ _⟩,by rw[Go.Joins.unfrozen_of_block NA]⟩);have HN0:=hid N0;clear NA NZ N0 VIS HT CK RK PF;refine HV.out.mono ?_;rintro e z ⟨rz,rfl,hz,hg⟩;rcases hg with⟨rfl,hg⟩|⟨rfl,hF⟩
   case' inr=>
    have HF:=hid (⟨D1.out.trans ((HN0.out.trans hz).mono D1.out.size),hF⟩:_/\_);clear hF hz HV;go_wp21;go_ret2;exact⟨none,0,0,4,rfl,HF.out.1,.inr ⟨rfl,.inr HF.out.2,rfl,rfl,rfl⟩⟩
   have DZ:Hid (qL w z):=hid (D1.out.trans ((HN0.out.trans hz).mono D1.out.size));obtain⟨pc,cc,g0, -,r0⟩:=hg.row;have HR:=hid r0;obtain⟨m,hmm⟩:=zzX L.length;have hjm:j0<=m:=by
    rcases END.out with⟨h,_⟩|⟨_,_,_,_,h,_⟩
    ·omega
    ·have:=(List.getElem?_eq_some_iff.1 h).1;omega
   rw[<-hmm] at g0 hm;have HM:=hid hmm;have Z0:=hid (zM z.heap.size z);have ZO:=hid (show z.ownsRow z.heap.size 37 2 (.slice none 0 0) (ziq L 0).length (zbj (ziq L 0)) from World.ownsRow_nil _ _ _ _);clear hmm r0 hg hz HV;go_wp21;clear g0;go_loopw [10,47] (λv i wr=>∃(k:Nat) (q:Option Addr) (c:Nat),k<=j0/\i=.int .i64 (k:Int)/\v=.slice q (ziq L k).length c/\Hid (qL z wr)/\Hid (wr.ownsRow z.heap.size 37 2 (.slice q (ziq L k).length c) (ziq L k).length (zbj (ziq L k))))
    (λ_ i _=>m-(zL i).toNat)
   case atStart=>exact⟨0,none,0,zR _,rfl,rfl,Z0,ZO⟩
   case round=>
    obtain⟨k,q,c,hk,rfl,rfl,E0,O0⟩:=hrel;by_cases hlt:k<j0
    ·have hkm0:k<m:=by omega
     obtain⟨d,hd⟩:∃d,L[k]? =some d:=⟨_,yB (by rw[<-HM.out];exact hkm0)⟩;obtain⟨g,rfl,c0,c1⟩:=(HR.out.keep (zac E0.out)) k d hd;have hks:=z6s hd;have hkl:=z8a L k;rw[<-HM.out] at hkl;have hL:=λh=>LG.out k d hlt hd h;obtain⟨x,y⟩:=d;simp only at c0 c1 hks hL;obtain⟨v1,hv⟩:=zzX (wr.alloc (.cells #[St x,St y] 87));have a1:qL wr v1:=by rw[hv];exact(zM _ wr).alloc (zN _) _
     have A1:v1.heap[wr.heap.size]? =some (.cells #[St x,St y] 87 (0,0)):=by rw[hv];exact zG wr _
     have k0:v1.cell? ⟨wr.heap.size,0,none⟩=some (St x):=by rw[zJ A1];rfl
     rw[hv] at k0;have HV1:=hid hv.symm;have E1:=hid (E0.out.trans (a1.mono E0.out.size));have B1:=hid A1;have O1:=hid (zcj (zac a1) O0.out);have HK:=hid hks;have HL:=hid hL;clear hv a1 A1 O0 hd hks hL;cases hx:(x==[48])
     ·obtain⟨a,b,La,Lb,la,lb⟩:=HL.out hx
      have HLa:=hid La;have HLb:=hid Lb;clear La Lb;go_wp21;rw[HV1.out];clear c0 c1 k0 HV1;refine zzM (HLa.out v1 (HW.out _ (DZ.out.trans (E1.out.mono DZ.out.size)))) λy1 hb1=>?_;have E2:=hid (E1.out.trans (hb1.mono E1.out.size));have B2:=hid (zac hb1 _ _ _ _ B1.out);have O2:=hid (zcj (zac hb1) O1.out);clear hb1 E1 B1 O1;have k1:y1.cell? ⟨wr.heap.size,1,none⟩=some (St y):=by rw[zJ B2.out];rfl
      go_wp21;refine zzM (HLb.out y1 (HW.out _ (DZ.out.trans (E2.out.mono DZ.out.size)))) λy2 hb1=>?_;have E3:=hid (E2.out.trans (hb1.mono E2.out.size));have B3:=hid (zac hb1 _ _ _ _ B2.out);have O3:=hid (zcj (zac hb1) O2.out);clear hb1 k1 E2 B2 O2;have k0:y2.cell? ⟨wr.heap.size,0,none⟩=some (St x):=by rw[zJ B3.out];rfl
      have k1:y2.cell? ⟨wr.heap.size,1,none⟩=some (St y):=by rw[zJ B3.out];rfl
      go_wp2_with (at_builtin;refine wpList_append_own _ rfl _ _ 26 rfl z.heap.size 37 i0 (.agg #[St [],St []]) 2 32 Tryz.underlying26 hi hz0 hz1 hz2 rfl (by decide) _ _ _ rfl (O3.out.alloc _) ⟨y2.heap.size,0,none⟩ 1 1 [St x,St y] rfl rfl (zoq _ _ _ _) (zm4 _ _) (by unfold maxLen;omega) (by omega) (by have:=E3.out.size;simp;omega) (λv' w' hown' hgrow _=>?_));obtain⟨g',c',rfl, -, -⟩:=zye hown' (by omega);have F1:Hid (qL z w'):=hid ((E3.out.alloc E3.out.size _).grown hgrow (by have:=E3.out.size;simp;omega) (λq e=>(O3.out.lt q e).1));have he:ziq L (k+1)=ziq L k++[(x,y)]:=by rw[HK.out,hx];rfl
      have hel:(ziq L (k+1)).length=(ziq L k).length+1:=by rw[he];simp
      have G1:Hid (w'.ownsRow z.heap.size 37 2 (.slice (some ⟨g',0,none⟩) (ziq L (k+1)).length c') (ziq L (k+1)).length (zbj (ziq L (k+1)))):=hid (by rw[hel,he,zjb];exact hown');have HE:=hid hel;clear hgrow hown' k0 k1 E3 O3 B3 he hel HK HL;go_roundw
      case rel=>exact⟨k+1,some ⟨g',0,none⟩,c',by omega,by go_num,by rw[HE.out],F1,G1⟩
      case measure=>simp[zL];omega
     ·have he:ziq L (k+1)=ziq L k:=by rw[HK.out,hx];simp
      have HE:=hid he;clear he HK HL;go_wp21;rw[HV1.out];clear c0 c1 k0 HV1;go_roundw
      case rel=>exact⟨k+1,q,c,by omega,by go_num,by rw[HE.out],E1,by rw[HE.out];exact O1⟩
      case measure=>simp[zL];omega
    ·have hkm:k=j0:=by omega
     subst hkm;clear LG;rcases END.out with⟨hjl,ho,hS⟩|⟨bx,br,a0,b0,hj,hb0,ha0,hLB,hLR⟩
     ·have HX:=hid hjl
      have hkm:k=m:=by rw[HM.out];exact hjl
      subst hkm;clear END hjl hjm hlt;have he:ziq L k=zin L:=by rw[HX.out,z7n]
      rw[he] at O0⊢;have DE:=hid (DZ.out.trans (E0.out.mono DZ.out.size));have hs:=hS z.heap.size wr q c DE.out DZ.out.size E0.out.size O0.out;have HS:=hid hs;clear hs he hS;go_wp21;refine HS.out.mono ?_;rintro e y5 ⟨⟨u,rfl⟩,h1,h2⟩;have FE:=hid (⟨DE.out.trans (h1.mono DZ.out.size),h2.mono DZ.out.size⟩:qL w y5/\y5.ownsRow w.heap.size 37 2 (.slice q (zin L).length c) (zin L).length (zbj M));clear h1 h2;go_wp21;go_ret2;exact⟨q,_,c,0,rfl,FE.out.1,.inl ⟨rfl,HX.out,rfl,FE.out.2⟩⟩
     ·have hkm0:k<m:=by have:=(List.getElem?_eq_some_iff.1 hj).1;rw[HM.out];exact this
      have HKM:=hid (show k<L.length by rw[<-HM.out];exact hkm0);have HJ:=hid hj;have HB0:=hid hb0;have HA0:=hid ha0;have LB:=hid hLB;have LR:=hid hLR;clear END hj hb0 ha0 hLB hLR hlt;obtain⟨g,rfl,c0,c1⟩:=(HR.out.keep (zac E0.out)) k (bx,br) HJ.out;simp only at c0 c1;have hx:=HB0.out;obtain⟨v1,hv⟩:=zzX (wr.alloc (.cells #[St bx,St br] 87));have a1:qL wr v1:=by rw[hv];exact(zM _ wr).alloc (zN _) _
      have A1:v1.heap[wr.heap.size]? =some (.cells #[St bx,St br] 87 (0,0)):=by rw[hv];exact zG wr _
      have k0:v1.cell? ⟨wr.heap.size,0,none⟩=some (St bx):=by rw[zJ A1];rfl
      rw[hv] at k0;have HV1:=hid hv.symm;have E1:=hid (E0.out.trans (a1.mono E0.out.size));have B1:=hid A1;clear hv a1 A1 O0;go_wp21;rw[HV1.out];clear c0 c1 k0 HV1;refine zzM (LB.out v1 (HW.out _ (DZ.out.trans (E1.out.mono DZ.out.size)))) λy1 hb1=>?_;have E2:=hid (DZ.out.trans ((E1.out.trans (hb1.mono E1.out.size)).mono DZ.out.size));have B2:=hid (zac hb1 _ _ _ _ B1.out);clear hb1 E1 B1;have k1:y1.cell? ⟨wr.heap.size,1,none⟩=some (St br):=by rw[zJ B2.out];rfl
      rcases HA0.out with hai|⟨hai,hbi⟩
      ·have ha:decide (60<a0)=true:=decide_eq_true hai
       go_wp21;go_ret2;exact⟨none,0,0,4,rfl,E2.out,.inr ⟨rfl,.inl HKM.out,rfl,rfl,rfl⟩⟩
      ·have ha:decide (60<a0)=false:=decide_eq_false (by omega)
       have hb:decide (40<b0)=true:=decide_eq_true hbi;go_wp21;refine zzM (LR.out y1 (HW.out _ E2.out)) λy2 hb1=>?_;have E3:=hid (E2.out.trans (hb1.mono E2.out.size));clear hb1 E2;go_wp21;go_ret2;exact⟨none,0,0,4,rfl,E3.out,.inr ⟨rfl,.inl HKM.out,rfl,rfl,rfl⟩⟩
end
section
open Go.RowKit Go.Shelf Lib Str Limb
theorem yfh {f:Nat}:∀{i l:Nat} {Y:List (Nat×Nat)},i<=25->0<l->25-i+l<=f->SqY i l Y->
 sqX l Y Y.length∣l/\∀j,i<=j->j<25->¬prN j*prN j∣sqX l Y Y.length:=by
 induction f with
 |zero=>intro i l Y hi hl hf;omega
 |succ f ih=>
  intro i l Y hi hl hf h;by_cases h25:i=25
  ·subst h25
   obtain rfl:=h.done;exact⟨Nat.dvd_refl _,λj h1 h2=>by omega⟩
  ·have hlt:i<25:=by omega
   obtain⟨h2, -⟩:=zw4 i hlt;by_cases hd:prN i*prN i∣l
   ·obtain⟨Y',rfl,h'⟩:=h.take hlt hl hd
    have hpp:4<=prN i*prN i:=Nat.mul_le_mul h2 h2;have hl1:0<l/(prN i*prN i):=Nat.div_pos (Nat.le_of_dvd hl hd) (by omega);have hl2:l/(prN i*prN i)<l:=Nat.div_lt_self hl (by omega);obtain⟨a1,a2⟩:=ih hi hl1 (by omega) h';rw[List.length_cons,zy3];exact⟨Nat.dvd_trans a1 (Nat.div_dvd_of_dvd hd),a2⟩
   ·obtain⟨a1,a2⟩:=ih (i:=i+1) (by omega) hl (by omega) (h.skip hlt hd)
    refine⟨a1,λj h1 h3=>?_⟩;by_cases e:j=i
    ·subst e
     exact λk=>hd (Nat.dvd_trans k a1)
    ·exact a2 j (by omega) h3
theorem zn4 {c l:Nat}:∀(d i:Nat),i+d=25->(∀j,i<=j->j<25->¬prN j*prN j∣l)->zro (prL.drop i) (c,l)=(c,l)
 |0,i,h,_=>by
  obtain rfl:i=25:=by omega
  rfl
 |d+1,i,h,k=>by
  rw[z79 i (by omega)];show zro (prL.drop (i+1)) (zkk (prN i) (c,l))=_;rw[z78 (k i (zN _) (by omega))];exact zn4 d (i+1) (by omega) λj h1 h2=>k j (by omega) h2
theorem zf5 {N:Nat} (hN:0<N):(zn7 N).1*(zn7 N).1*(zn7 N).2=N/\0<(zn7 N).1/\0<(zn7 N).2/\zn7 (zn7 N).2=(1,(zn7 N).2):=by
 obtain⟨Y,hY⟩:=z65 0 N;obtain⟨h1,h2⟩:=SqY.law (f:=25-0+N) (by omega) hN (zN _) hY;obtain⟨-,h4⟩:=yfh (f:=25-0+N) (by omega) hN (zN _) hY;have h3:=h2 1;rw[Nat.one_mul,List.drop_zero] at h3;obtain⟨b1,b2,b3,b4,b5⟩:=zxv hN h1 (zN _);have eN:=h1 _ (zN _);have hn:zn7 N=if isq (sqX N Y Y.length)*isq (sqX N Y Y.length)=sqX N Y Y.length then(sqC Y Y.length*isq (sqX N Y Y.length),1) else(sqC Y Y.length,sqX N Y Y.length):=by
  unfold zn7;rw[h3]
 rw[hn];generalize sqX N Y Y.length=X at*
 generalize sqC Y Y.length=C at*
 by_cases g:isq X*isq X=X
 ·rw[if_pos g]
  dsimp only;have hi:0<isq X:=yS λe=>by rw[e] at g;omega
  refine⟨?_,Nat.mul_pos b3 hi,by omega,by decide+kernel⟩;rw[<-eN]
  conv=>rhs;rw[<-g]
  ac_rfl
 ·rw[if_neg g]
  dsimp only;refine⟨eN,b3,b4,?_⟩;have h5:=zn4 (c:=1) (l:=X) 25 0 rfl λj _ hj=>h4 j (zR _) hj;rw[List.drop_zero] at h5;unfold zn7;rw[h5];dsimp only;rw[if_neg g]
end
section
open Go.RowKit Go.Shelf Lib Str Limb
attribute [local go_sem] Oper.semAt_some
def nrT (u:Rat×Rat):Rat×Nat:=(u.1*(((zn7 (u.2.num.natAbs*u.2.den)).1:Rat)/(u.2.den:Rat)),(zn7 (u.2.num.natAbs*u.2.den)).2)
def SdU (v:Value) (U:List (Rat×Rat)) (W:zA):Prop:=
 ∃p cap,v=.slice p U.length cap/\U.length<=cap/\∀i u,U[i]? =some u->∃b off,p=some ⟨b,off,none⟩/\b<W.heap.size/\W.cell? ⟨b,off+i*2,none⟩=some (St (numS u.1))/\W.cell? ⟨b,off+i*2+1,none⟩=some (St (numS u.2))
theorem ygy (c:Rat):nrT (c,1)=(c,1):=by
 unfold nrT;dsimp only;rw[show(1:Rat).num.natAbs*(1:Rat).den=1 from rfl,show zn7 1=(1,1) by decide+kernel,show(1:Rat).den=1 from rfl];congr 1;grind
theorem zpi {u:Rat×Rat} (hp:0<u.2) (h:sz u.2 90):sz (((zn7 (u.2.num.natAbs*u.2.den)).1:Rat)/(u.2.den:Rat)) 90:=by
 obtain⟨-,n0⟩:=z9b hp;have d0:=u.2.den_pos;obtain⟨e, -,h2, -⟩:=zf5 (Nat.mul_pos n0 d0);refine zvm (by omega) ?_ h.2;refine Nat.lt_of_not_le λhc=>?_;have h3:=Nat.mul_le_mul hc hc;rw[<-Nat.pow_add] at h3;have h4:u.2.num.natAbs*u.2.den<10^(90+90):=zcc h.1 h.2;have h5:=Nat.le_mul_of_pos_right ((zn7 (u.2.num.natAbs*u.2.den)).1*(zn7 (u.2.num.natAbs*u.2.den)).1) h2;rw[e] at h5;omega
theorem zqc (q:Rat) (h:0<=q.num):Lib.hasPrefix (numS q) [45]=false:=by
 obtain⟨c,r,e,hc,_⟩:=dec_head q.num.natAbs;have e1:zE q.num=zD q.num.natAbs:=by
  rcases zbg q.num with⟨_,e⟩|⟨h',_⟩
  ·exact e
  ·omega
 have hc5:c≠45:=λh=>by subst h;simp at hc
 unfold numS;rw[e1,e];simp[Lib.hasPrefix,List.isPrefixOf,Ne.symm hc5]
theorem zxz (q:Rat) (hq:0<q) (W:zA):zC zF 46 #[St (numS q),.string ⟨#[45]⟩] W λe w'=>e=.returned (.bool false)/\w'=W:=by
 have hc:=Tryz.strings_HasPrefix ⟨(numS q).toArray⟩ ⟨#[45]⟩ W;have hp:Lib.hasPrefix (numS q) [45]=false:=zqc q (Rat.num_nonneg.2 (Rat.le_of_lt hq));rw[show(⟨(numS q).toArray⟩:ByteArray).data.toList=numS q from rfl,show(⟨#[45]⟩:ByteArray).data.toList=[45] from rfl,hp] at hc;exact hc
structure NrmG (r:Nat):Prop where
 pos:0<r
 lt:r<10^90
 nc:zn7 r=(1,r)
theorem NrmG.sz {r:Nat} (h:NrmG r):sz (r:Rat) 90:=⟨by show((r:Int)).natAbs<_;rw[Int.natAbs_natCast];exact h.lt,by show 1<10^90;exact Nat.one_lt_pow (by omega) (by omega)⟩
theorem z0j {k:Nat} (h0:0<k) (h9:k<=300) {a b:Int} (hb:b≠0) (h1:digs a<=k) (h2:digs b<=k):okQ (Rat.divInt a b):=
 zd0 h0 h9 (zig hb ((za3 _ _ h0).1 h1) ((za3 _ _ h0).1 h2))
theorem okMul.ok {a b:Rat} (h:okMul a b):okQ (a*b):=by
 rw[zf1];exact z0j (k:=300) (by omega) (by omega) (by have:=Nat.mul_pos a.den_pos b.den_pos;omega) h.1 h.2
theorem okAdd.ok {a b:Rat} (h:okAdd a b):okQ (a+b):=by
 rw[zf0];exact z0j (k:=300) (by omega) (by omega) (by have:=Nat.mul_pos a.den_pos b.den_pos;omega) h.2.2.1 h.2.2.2
theorem zlr (r s:Nat) (h:NrmG r) (hs:NrmG s) (ha:z5c (r:Rat) (s:Rat)=false) (W:zA) (hW:Wd W):qJ 114 #[St (zD r),St (zD s)] W (.tuple #[.string ⟨#[]⟩,.bool false,.int .i64 0]):=by
 have hp:(0:Rat)<(r:Rat):=by have:=h.pos;exact_mod_cast this
 have hq:(0:Rat)<(s:Rat):=by have:=hs.pos;exact_mod_cast this
 have:=zvz (r:Rat) (s:Rat) (Rat.le_of_lt hp) hq h.sz hs.sz _ _ (zv0 _) (zv0 _) W hW;unfold z5c at ha;rw[ha,zhe,zhe] at this;exact this
theorem zlz (r s:Nat) (h:NrmG r) (hs:NrmG s) (ha:z5c (r:Rat) (s:Rat)=true) (W:zA) (hW:Wd W):qJ 114 #[St (zD r),St (zD s)] W (.tuple #[St (numS (rt ((r:Rat)/(s:Rat)))),.bool true,.int .i64 0]):=by
 have hp:(0:Rat)<(r:Rat):=by have:=h.pos;exact_mod_cast this
 have hq:(0:Rat)<(s:Rat):=by have:=hs.pos;exact_mod_cast this
 have:=zvz (r:Rat) (s:Rat) (Rat.le_of_lt hp) hq h.sz hs.sz _ _ (zv0 _) (zv0 _) W hW;unfold z5c at ha;rw[ha,if_pos rfl,zhe,zhe] at this;exact this
theorem yfi (r s:Nat) (h:NrmG r) (hs:NrmG s):∃n:Int,(decide (n<0)=decide (r<s))/\qK 18 #[St (zD r),St (zD s)] (.tuple #[.int .i64 n,.int .i64 0]):=by
 refine⟨Geo.cmpR (r:Rat) (s:Rat),?_,λW hW=>?_⟩
 ·have hc:=Geo.zaw (r:Rat) (s:Rat)
  have e:(r<s)↔(r:Rat)<(s:Rat):=by constructor<;>intro h<;>exact_mod_cast h
  rw[decide_eq_decide,e];grind
 ·have:=zgq (r:Rat) (s:Rat) 90 90 (by omega) (by omega) (by omega) h.sz hs.sz W hW
  rw[zhe,zhe] at this;exact this
def okP (c t:Rat×Nat):Prop:=if t.2<c.2 then okMul c.1 (rt ((c.2:Rat)/(t.2:Rat)))/\okAdd t.1 (c.1*rt ((c.2:Rat)/(t.2:Rat))) else okMul t.1 (rt ((t.2:Rat)/(c.2:Rat)))/\okAdd c.1 (t.1*rt ((t.2:Rat)/(c.2:Rat)))
theorem z0k (F:Prop) (x y:Rat) (r s:Nat) (hr:NrmG r) (hs:NrmG s) (ha:z5c (s:Rat) (r:Rat)=true) (ox:okQ x) (oy:okQ y) (hF:(okMul y (rt ((s:Rat)/(r:Rat)))/\okAdd x (y*rt ((s:Rat)/(r:Rat))))\/F):
 ∃(z zr:List UInt8) (E:Int),(qK 115 #[.agg #[St (numS x),St (zD r)],.agg #[St (numS y),St (zD s)]] (.tuple #[.agg #[St z,St zr],.int .i64 E]))/\
  ((E=0/\z=numS (x+y*rt ((s:Rat)/(r:Rat)))/\zr=zD r/\okQ (x+y*rt ((s:Rat)/(r:Rat))))\/(E=4/\F)):=by
 have sk:sz (rt ((s:Rat)/(r:Rat))) 45:=zzs (k:=45) (zvm (n:=s) (d:=r) (k:=90) (by have:=hr.pos;omega) hs.lt hr.lt);have ok:=zd0 (show 0<45 by omega) (by omega) sk;have hR:=λU (hU:Wd U)=>zlz s r hs hr ha U hU;have hM:=λU (hU:Wd U)=>yfg y _ oy ok U hU;by_cases h1:okMul y (rt ((s:Rat)/(r:Rat)))
 ·rw[if_pos h1,if_pos h1] at hM
  have hA:=λU (hU:Wd U)=>yfe x _ ox h1.ok U hU;by_cases h2:okAdd x (y*rt ((s:Rat)/(r:Rat)))
  ·rw[if_pos h2,if_pos h2] at hA
   exact⟨_,_,0,λW hW=>zvt _ _ _ _ _ _ _ true (hid hR) (hid hM) (hid hA) W (hid hW),.inl ⟨rfl,rfl,rfl,h2.ok⟩⟩
  ·rw[if_neg h2,if_neg h2] at hA
   exact⟨[],[],4,λW hW=>zmz _ _ _ _ _ _ _ true (hid hR) (hid (.inr ⟨hM,hA⟩)) W (hid hW),.inr ⟨rfl,hF.resolve_left λh=>h2 h.2⟩⟩
 ·rw[if_neg h1,if_neg h1] at hM
  exact⟨[],[],4,λW hW=>zmz _ _ _ _ _ [] [] true (hid hR) (hid (.inl hM)) W (hid hW),.inr ⟨rfl,hF.resolve_left λh=>h1 h.1⟩⟩
theorem yh2 (F:Prop) (gb:Nat) (l:List (Rat×Nat)) (t:Rat×Nat) (hl:l.length<=5000) (ht:NrmG t.2) (hot:okQ t.1) (hc:∀c∈l,NrmG c.2/\okQ c.1) (hF:∀c∈l,z5c (t.2:Rat) (c.2:Rat)=true->okP c t\/F) (W:zA) (hW:Wd W) (h:GatL gb (l.map strT) W):
 zC zF 48 #[.pointer (some ⟨gb,0,none⟩),.agg #[St (numS t.1),St (zD t.2)]] W λe w'=>∃r:Int,e=.returned (.int .i64 r)/\zB gb W w'/\((r=0/\GatL gb ((gaG l t).map strT) w'/\∀c∈gaG l t,NrmG c.2/\okQ c.1)\/(r=4/\F)):=by
 rcases zm7 t l with⟨h1,h2⟩|⟨j,c,h1,h2,h3,h4⟩
 ·have:=zot gb (l.map strT) (numS t.1) (zD t.2) (by simpa using hl) (hid λi d hd=>by
   rw[List.getElem?_map,Option.map_eq_some_iff] at hd;obtain⟨c,hi,rfl⟩:=hd;have hm:=List.mem_of_getElem? hi;exact⟨_,λV hV=>zlr t.2 c.2 ht (hc c hm).1 (h1 c hm) V hV⟩) W (hid hW) (hid h)
  rw[h2,List.map_append];refine this.mono λe w' ⟨e1,hb,hg⟩=>⟨0,e1,hb,.inl ⟨rfl,hg,λc hcm=>?_⟩⟩;rcases List.mem_append.1 hcm with hcm|hcm
  ·exact hc c hcm
  ·obtain rfl:=List.mem_singleton.1 hcm
   exact⟨ht,hot⟩
 ·have hm:=List.mem_of_getElem? h1
  obtain⟨nc,oc⟩:=hc c hm;have p1:=nc.pos;have p2:=ht.pos;obtain⟨nn,hnn,hcmp⟩:=yfi t.2 c.2 ht nc;have hR:Hid (∀(i:Nat) (d:List UInt8×List UInt8),i<j->(l.map strT)[i]? =some d->∃k,qK 114 #[St (zD t.2),St d.2] (.tuple #[.string k,.bool false,.int .i64 0])):=hid λi d hi hd=>by
   rw[List.getElem?_map,Option.map_eq_some_iff] at hd;obtain⟨x,hx,rfl⟩:=hd;have hmx:=List.mem_of_getElem? hx;exact⟨_,λV hV=>zlr t.2 x.2 ht (hc x hmx).1 (h3 i x hi hx) V hV⟩
  rw[h4];have fin:∀(z zr:List UInt8) (E:Int) (o:Bool),decide (nn<0)=o->
   (qK 115 #[bif o then .agg #[St (numS t.1),St (zD t.2)] else .agg #[St (numS c.1),St (zD c.2)],bif o then .agg #[St (numS c.1),St (zD c.2)] else .agg #[St (numS t.1),St (zD t.2)]] (.tuple #[.agg #[St z,St zr],.int .i64 E]))->
   ((E=0/\(z,zr)=strT (plG c t)/\NrmG (plG c t).2/\okQ (plG c t).1)\/(E=4/\F))->
   zC zF 48 #[.pointer (some ⟨gb,0,none⟩),.agg #[St (numS t.1),St (zD t.2)]] W λe w'=>∃r:Int,e=.returned (.int .i64 r)/\zB gb W w'/\((r=0/\GatL gb ((l.set j (plG c t)).map strT) w'/\∀d∈l.set j (plG c t),NrmG d.2/\okQ d.1)\/(r=4/\F)):=λz zr E o ho hP hE=>by
   refine(ygw gb (l.map strT) (numS t.1) (zD t.2) (numS c.1) (zD c.2) z zr ⟨(numS (rt ((t.2:Rat)/(c.2:Rat)))).toArray⟩ j nn E o (by simpa using hl) (by rw[List.getElem?_map,h1];rfl) ho hR (hid λV hV=>zlz t.2 c.2 ht nc h2 V hV) (hid hcmp) (hid hP) W (hid hW) (hid h)).mono λe w' ⟨e1,hb,hg⟩=>⟨E,e1,hb,?_⟩;rcases hE with⟨rfl,e2,n2,o2⟩|⟨rfl,hf⟩
   ·refine .inl ⟨rfl,by rw[List.map_set,<-e2];exact hg,λd hd=>?_⟩
    rcases List.mem_or_eq_of_mem_set hd with hd|rfl
    ·exact hc d hd
    ·exact⟨n2,o2⟩
   ·exact .inr ⟨rfl,hf⟩
  have hfc:=hF c hm h2;unfold okP at hfc;by_cases hlt:t.2<c.2
  ·rw[if_pos hlt] at hfc
   have ha:z5c (c.2:Rat) (t.2:Rat)=true:=zu5 (by exact_mod_cast p2) (by exact_mod_cast p1) h2;have hz:plG c t=(t.1+c.1*rt ((c.2:Rat)/(t.2:Rat)),t.2):=by unfold plG;rw[if_pos hlt]
   obtain⟨z,zr,E,hP,hE⟩:=z0k F t.1 c.1 t.2 c.2 ht nc ha hot oc hfc;exact fin z zr E true (by rw[hnn];exact decide_eq_true hlt) hP (hE.imp (λ⟨a,b,c',d⟩=>⟨a,by rw[hz,b,c'];rfl,by rw[hz];exact ht,by rw[hz];exact d⟩) id)
  ·rw[if_neg hlt] at hfc
   have hz:plG c t=(c.1+t.1*rt ((t.2:Rat)/(c.2:Rat)),c.2):=by unfold plG;rw[if_neg hlt]
   obtain⟨z,zr,E,hP,hE⟩:=z0k F c.1 t.1 c.2 t.2 nc ht h2 oc hot hfc;exact fin z zr E false (by rw[hnn];exact decide_eq_false hlt) hP (hE.imp (λ⟨a,b,c',d⟩=>⟨a,by rw[hz,b,c'];rfl,by rw[hz];exact nc,by rw[hz];exact d⟩) id)
structure MkS (U:List (Rat×Rat)):Prop where
 len:U.length<=12
 ne:∀u∈U,u.1≠0
 pos:∀u∈U,0<u.2
 csz:∀u∈U,sz u.1 140
 rsz:∀u∈U,sz u.2 90
theorem yfj {N k:Nat} (hN:0<N) (h:N<k):(zn7 N).2<k:=by
 obtain⟨k1,k2, -, -⟩:=zf5 hN;have h5:=Nat.le_mul_of_pos_left (zn7 N).2 (Nat.mul_pos k2 k2);rw[k1] at h5;omega
theorem zmj {n k:Nat} (hk:0<k) (h:n<10^k):sz (n:Rat) k:=⟨by show((n:Int)).natAbs<_;rw[Int.natAbs_natCast];exact h,Nat.one_lt_pow (by omega) (by omega)⟩
theorem yhk {u:Rat×Rat} (hp:0<u.2) {k:Nat} (hk:0<k) (h:sz u.2 k):sz ((nrT u).2:Rat) (k+k):=by
 have h1:=yfj (Nat.mul_pos (z9b hp).2 u.2.den_pos) (zcc h.1 h.2);unfold nrT;dsimp only;generalize (zn7 (u.2.num.natAbs*u.2.den)).2=z at*
 exact zmj (by omega) h1
def GdG (l:List (Rat×Nat)):Prop:=∀c∈l,NrmG c.2/\okQ c.1
theorem yfk (F:Prop) (U:List (Rat×Rat)) (hU:MkS U) (T:List (Rat×Nat)) (eT:T=U.map nrT) (hF:∀i t,T[i]? =some t->(t.2<10^90\/F)/\∀c∈grG T i,z5c (t.2:Rat) (c.2:Rat)=true->okP c t\/F) (X Y:Nat->List UInt8) (hX:∀i u,U[i]? =some u->X i=numS u.1/\Y i=numS u.2) (q:Option Addr) (cap:Nat) (w:zA) (HW:Hid (∀W,qL w W->Wd W)) (HP:Hid (∀W,qL w W->Pw W))
 (HT:Hid (∀i,i<U.length->∃b off,q=some ⟨b,off,none⟩/\b<w.heap.size/\w.cell? ⟨b,off+i*2,none⟩=some (St (X i))/\w.cell? ⟨b,off+i*2+1,none⟩=some (St (Y i)))) (u vg:zA) (h1:qL w u) (h2:qL u vg) (h3:vg.heap.size=u.heap.size+1) (h4:GatL u.heap.size [] vg):
 zC zF 47 #[.slice q U.length cap,.func (.func 48) #[.pointer (some ⟨u.heap.size,0,none⟩)] #[]] vg λe w'=>∃r:Int,e=.returned (.int .i64 r)/\zB u.heap.size vg w'/\((r=0/\GatL u.heap.size ((grG T T.length).map strT) w'/\GdG (grG T T.length))\/(r=4/\F)):=by
 have lT:T.length=U.length:=by rw[eT,zV]
 have at_:∀i,i<U.length->∃u,U[i]? =some u:=λi hi=>⟨_,yB hi⟩;have hs:=h1.size;have hlen:=hU.len;have d1:zD 1=[49]:=by rw[zae (by omega)];rfl
 rw[lT]
 refine ygx F u.heap.size q cap U.length X Y (λi W=>GatL u.heap.size ((grG T i).map strT) W/\GdG (grG T i)) (by omega)
  (hid λi hi=>?_) vg (by omega) (hid λW h=>HW.out _ (h1.trans ((h2.trans h).mono hs))) (hid λW h=>HP.out _ (h1.trans ((h2.trans h).mono hs))) ⟨h4,λc hc=>by cases hc⟩
  (hid λi hi=>by
    obtain⟨b,off,e,hb,c0,c1⟩:=HT.out i hi;have hB:qL w vg:=h1.trans (h2.mono hs);exact⟨b,off,e,by omega,by rw[hB.cell (p:=⟨b,off+i*2,none⟩) hb];exact c0,by rw[hB.cell (p:=⟨b,off+i*2+1,none⟩) hb];exact c1⟩)
 obtain⟨a,ha⟩:=at_ i hi;have hma:=List.mem_of_getElem? ha;have ht:T[i]? =some (nrT a):=by rw[eT,List.getElem?_map,ha];rfl
 have ha2:=hU.pos a hma;obtain⟨-,n0⟩:=z9b ha2;obtain⟨-, -,k3,k4⟩:=zf5 (Nat.mul_pos n0 a.2.den_pos);have sL:=yhk ha2 (by omega) (hU.rsz a hma);have hsz:=zpi ha2 (hU.rsz a hma);have hnq:=λW hW hP=>z7a a.2 ha2 (hU.rsz a hma) W hW hP;obtain⟨C,hC⟩:=zzX ((zn7 (a.2.num.natAbs*a.2.den)).1);obtain⟨L,hL⟩:=zzX ((zn7 (a.2.num.natAbs*a.2.den)).2);have e3:nrT a=(a.1*((C:Rat)/(a.2.den:Rat)),L):=by unfold nrT;rw[<-hC,<-hL]
 have e4:a.2=1->a.1*((C:Rat)/(a.2.den:Rat))=a.1/\L=1:=λe1=>by
  have e2:nrT a=(a.1,1):=by rw[show a=(a.1,1) from by rw[<-e1]];exact ygy a.1
  rw[e3] at e2;exact⟨congrArg Prod.fst e2,congrArg Prod.snd e2⟩
 rw[<-hC,<-hL] at hnq;rw[<-hC] at hsz;rw[<-hL] at k3 k4;rw[e3] at ht sL;dsimp only at sL;clear hC hL e3;obtain⟨X1,hX1⟩:=zzX (a.1*((C:Rat)/(a.2.den:Rat)));rw[<-hX1] at ht e4;have hcz:(numS a.1==[48])=false:=zsf (hU.ne a hma);have hrz:(numS a.2==[48])=false:=zsf (λe=>by rw[e] at ha2;exact absurd ha2 (by decide));have hlg:=λW hW=>znp (L:Rat) (zd0 (by omega) (by omega) sL) W hW;rw[zhe] at hlg;have dd:digs ((L:Rat).den:Int)=1:=by show digs ((1:Nat):Int)=1;rw[zd9,d1];rfl
 have dn:digs (L:Rat).num=(zD L).length:=by show digs ((L:Nat):Int)=_;rw[zd9]
 have sx:sz X1 230:=by rw[hX1];exact zca (hU.csz a hma) hsz
 have hrest:∀(kk:List UInt8),(qK 9 #[St (numS a.1),St kk] (.tuple #[St (numS X1),.int .i64 0]))->
  ((90<(max (digs (L:Rat).num:Int) (digs ((L:Rat).den:Int):Nat):Int)/\F)\/((max (digs (L:Rat).num:Int) (digs ((L:Rat).den:Int):Nat):Int)<=90/\(qK 9 #[St (numS a.1),St kk] (.tuple #[St (numS X1),.int .i64 0]))/\
    ∀W:zA,Wd W->(GatL u.heap.size ((grG T i).map strT) W/\GdG (grG T i))->zC zF 48 #[.pointer (some ⟨u.heap.size,0,none⟩),.agg #[St (numS X1),St (zD L)]] W λe w'=>∃r:Int,e=.returned (.int .i64 r)/\zB u.heap.size W w'/\((r=0/\(GatL u.heap.size ((grG T (i+1)).map strT) w'/\GdG (grG T (i+1))))\/(r=4/\F)))):=λkk hm=>by
  rw[dd,dn];by_cases g:(zD L).length<=90
  ·refine .inr ⟨by omega,hm,λW hW hS=>?_⟩
   rw[zr9 ht];exact yh2 F u.heap.size (grG T i) (X1,L) (by have:=zw1 T i;omega) ⟨k3,(zaf _ 90 (by omega)).1 g,k4⟩ (zd0 (k:=230) (by omega) (by omega) sx) hS.2 (hF i _ ht).2 W hW hS.1
  ·exact .inl ⟨by omega,(hF i _ ht).1.resolve_left λh=>g ((zaf _ 90 (by omega)).2 h)⟩
 have hkeep:∀W W':zA,(GatL u.heap.size ((grG T i).map strT) W/\GdG (grG T i))->qL W W'->(GatL u.heap.size ((grG T i).map strT) W'/\GdG (grG T i)):=λW W' h hb=>⟨GatL.keep h.1 (zac hb),h.2⟩;rw[(hX i a ha).1,(hX i a ha).2];by_cases e1:a.2=1
 ·obtain⟨e5,e6⟩:=e4 e1
  refine⟨true,[49],zD L,numS X1,_,hcz,hrz,by rw[e1,zfc];rfl,λ_=>⟨rfl,by rw[e1,zfc,e6];exact d1⟩,λh=>(by cases h),hlg,hkeep,hrest _ λW hW=>?_⟩;have:=z61 a.1 1 a.1 140 1 (by omega) (by omega) (by omega) (hU.csz a hma) zb7.2.1 (by rw[Rat.mul_one]) W hW;rw[zfc] at this;rw[e5];exact this
 ·refine⟨false,numS ((C:Rat)/(a.2.den:Rat)),zD L,numS X1,_,hcz,hrz,?_,λh=>(by cases h),λ_ W hW hP=>hnq W hW hP,hlg,hkeep,hrest _ λW hW=>?_⟩
  ·rw[beq_eq_false_iff_ne,<-zfc]
   exact λe=>e1 (zh0 e)
  ·rw[hX1]
   exact zjf _ _ 140 90 (by omega) (by omega) (by omega) (hU.csz a hma) hsz W hW
def ShG (l:List (Rat×Nat)):Prop:=∀c∈l,sz c.1 60/\c.2<10^40/\NrmG c.2
theorem zix {q:Rat} {k:Nat} (hk:0<k):(sz q k->¬(k:Int)<(max (digs q.num:Int) (digs (q.den:Int):Nat)))/\(¬sz q k->(k:Int)<(max (digs q.num:Int) (digs (q.den:Int):Nat))):=by
 refine⟨λh=>?_,λh=>?_⟩
 ·have da:=zok hk h
  have da2:digs (q.den:Int)<=k:=by rw[zd9];exact da.2
  have:=da.1;omega
 ·have:¬(digs q.num<=k/\digs (q.den:Int)<=k):=λ⟨k1,k2⟩=>h ⟨(za3 _ _ hk).1 k1,by have:=(za3 _ _ hk).1 k2;rwa [Int.natAbs_natCast] at this⟩
  omega
theorem ygz {q:Rat}:sz q 60->decide ((60:Int)<(max (digs q.num:Int) (digs (q.den:Int):Nat)))=false:=λh=>decide_eq_false ((zix (k:=60) (by omega)).1 h)
theorem yg0 {n:Nat}:n<10^40->decide ((40:Int)<(max (digs ((n:Nat):Rat).num:Int) (digs (((n:Nat):Rat).den:Int):Nat)))=false:=λh=>decide_eq_false ((zix (k:=40) (by omega)).1 (zmj (by omega) h))
theorem yhl {n k:Nat} (hk:0<k):sz (n:Rat) k↔n<10^k:=⟨λh=>by have:=h.1;rwa [show((n:Rat)).num=(n:Int) from rfl,Int.natAbs_natCast] at this,zmj hk⟩
theorem yg1 {U:List (Rat×Rat)} (h:∀u∈U,0<u.2):PosR (U.map nrT):=λt ht=>by
 obtain⟨u,hu,rfl⟩:=List.mem_map.1 ht;have h1:=(zf5 (Nat.mul_pos (z9b (h u hu)).2 u.2.den_pos)).2.2.1;unfold nrT;dsimp only;generalize (zn7 (u.2.num.natAbs*u.2.den)).2=z at*
 exact_mod_cast h1
def zhg (T:List (Rat×Nat)):Prop:=(∀i t,T[i]? =some t->t.2<10^90/\∀c∈grG T i,z5c (t.2:Rat) (c.2:Rat)=true->okP c t)/\∀c∈grG T T.length,c.1≠0->sz c.1 60/\c.2<10^40
theorem zud {T:List (Rat×Nat)} (h:zhg T) (hT:∀t∈T,0<t.2/\zn7 t.2=(1,t.2)/\okQ t.1):∀i,i<=T.length->GdG (grG T i)
 |0,_=>λc hc=>by cases hc
 |i+1,hi=>by
  have ih:=zud h hT i (by omega);have ht:T[i]? =some T[i]:=yB (by omega);obtain⟨h1,h2,h3⟩:=hT _ (List.mem_of_getElem? ht);obtain⟨h4,h5⟩:=h.1 i _ ht;rw[zr9 ht];generalize T[i]=t at*
  rcases zm7 t (grG T i) with⟨_,e⟩|⟨j,c,e1,e2,_,e⟩
  ·rw[e]
   intro c hc;rcases List.mem_append.1 hc with hc|hc
   ·exact ih c hc
   ·rw[List.mem_singleton] at hc
    subst hc;exact⟨⟨h1,h4,h2⟩,h3⟩
  ·rw[e]
   intro d hd;rcases List.mem_or_eq_of_mem_set hd with hd|rfl
   ·exact ih d hd
   ·have hc:=List.mem_of_getElem? e1
    have o:=h5 c hc e2;unfold okP at o;unfold plG;split at o
    ·rename_i g;rw[if_pos g];exact⟨⟨h1,h4,h2⟩,o.2.ok⟩
    ·rename_i g;rw[if_neg g];exact⟨(ih c hc).1,o.2.ok⟩
theorem yfl {w:zA} {base:Nat} {t:TypeId} {s:Nat} {q:Option Addr} {n c m:Nat} {xs:List Value} (h:w.ownsRow base t s (.slice q n c) m xs):∀a,q=some a->base<=a.block/\a.off=0:=λa e=>by
 rcases h.2 with⟨e2,_⟩|⟨g,cp,cur,e2,hg,_⟩
 ·injection e2 with e2
  rw[e] at e2;cases e2
 ·injection e2 with e2
  rw[e] at e2;injection e2 with e2;subst e2;exact⟨hg,rfl⟩
theorem zo6 (U:List (Rat×Rat)) (hU:MkS U) (q:Option Addr) (cap:Nat) (w:zA) (HW:Hid (∀W,qL w W->Wd W)) (HP:Hid (∀W,qL w W->Pw W)) (hx:∀i u,U[i]? =some u->∃b off,q=some ⟨b,off,none⟩/\b<w.heap.size/\w.cell? ⟨b,off+i*2,none⟩=some (St (numS u.1))/\w.cell? ⟨b,off+i*2+1,none⟩=some (St (numS u.2))):
 zC zF 11 #[.slice q U.length cap] w λe w'=>∃q n c r,e=.returned (.tuple #[.slice q n c,.int .i64 r])/\zB w.heap.size w w'/\((r=0/\SdL (.slice q n c) (mkG (U.map nrT)) w'/\ShG (mkG (U.map nrT))/\∀a,q=some a->w.heap.size<=a.block/\a.off=0)\/((r=4/\¬zhg (U.map nrT))/\q=none/\n=0/\c=0)):=by
 obtain⟨T,eT⟩:=zzX (U.map nrT);rw[<-eT];have lT:T.length=U.length:=by rw[eT,zV]
 have at_:∀i,i<U.length->∃u,U[i]? =some u:=λi hi=>⟨_,yB hi⟩;let X:Nat->List UInt8:=λi=>numS ((U[i]?.getD (1,1)).1);let Y:Nat->List UInt8:=λi=>numS ((U[i]?.getD (1,1)).2);have hX:∀i u,U[i]? =some u->X i=numS u.1/\Y i=numS u.2:=λi t h=>⟨by show numS ((U[i]?.getD (1,1)).1)=_;rw[h];rfl,by show numS ((U[i]?.getD (1,1)).2)=_;rw[h];rfl⟩;have hp:PosR T:=by rw[eT];exact yg1 hU.pos
 have hk:zin ((grG T T.length).map strT)=(keG T).map strT:=by rw[zi3,zuk];rfl
 have hgl:(grG T T.length).length<=T.length:=zw1 T _;have hlen:=hU.len;have hkl:=(zw5 T).2;have HT2:Hid (∀i,i<U.length->∃b off,q=some ⟨b,off,none⟩/\b<w.heap.size/\w.cell? ⟨b,off+i*2,none⟩=some (St (X i))/\w.cell? ⟨b,off+i*2+1,none⟩=some (St (Y i))):=hid λi hi=>by
  obtain⟨t,ht⟩:=at_ i hi;rw[(hX i t ht).1,(hX i t ht).2];exact hx i t ht
 have hF:∀i t,T[i]? =some t->(t.2<10^90\/¬zhg T)/\∀c∈grG T i,z5c (t.2:Rat) (c.2:Rat)=true->okP c t\/¬zhg T:=λi t ht=>by
  by_cases g:zhg T
  ·exact⟨.inl (g.1 i t ht).1,λc hc ha=>.inl ((g.1 i t ht).2 c hc ha)⟩
  ·exact⟨.inr g,λ_ _ _=>.inr g⟩
 have VIS:=λ(u vg:zA) h1 h2 h3 h4=>yfk (¬zhg T) U hU T eT hF X Y hX q cap w HW HP HT2 u vg h1 h2 h3 h4
 have core:=λL M j0 hm VI LG EN=>z0i (¬zhg T) q cap U.length X Y L M j0 (by omega) hm
  (hid λi hi W hW=>by
    obtain⟨t,ht⟩:=at_ i hi;rw[(hX i t ht).1];exact zfj t.1 (zd0 (by omega) (by omega) (hU.csz t (List.mem_of_getElem? ht))) W hW)
  (hid λi hi W hW=>by
    obtain⟨t,ht⟩:=at_ i hi;rw[(hX i t ht).2];exact zfj t.2 (zd0 (by omega) (by omega) (hU.rsz t (List.mem_of_getElem? ht))) W hW)
  (hid λi hi W=>by
    obtain⟨t,ht⟩:=at_ i hi;rw[(hX i t ht).2];exact zxz t.2 (hU.pos t (List.mem_of_getElem? ht)) W)
  w HW HT2 VI LG EN
 have lnN:∀n:Nat,n<10^90->qK 49 #[St (zD n)] (.int .i64 (max (digs ((n:Nat):Rat).num:Int) (digs (((n:Nat):Rat).den:Int):Nat))):=λn hn W hW=>by
  have:=znp (n:Rat) (zd0 (k:=90) (by omega) (by omega) (zmj (by omega) hn)) W hW;rw[zhe] at this;exact this
 by_cases G:GdG (grG T T.length)
 ·let P:Rat×Nat->Bool:=λc=>decide (sz c.1 60)&&decide (c.2<10^40)
  have good:=λ(j0:Nat) (h60:∀(i:Nat) (c:Rat×Nat),i<j0->(grG T T.length)[i]? =some c->c.1≠0->P c=true) EN=>core ((grG T T.length).map strT) ((mkG T).map strT) j0 (by rw[zV];omega)
   (hid λu vg h1 h2 h3 h4=>(VIS u vg h1 h2 h3 h4).mono λe w' ⟨r,e1,hb,h⟩=>⟨r,e1,hb,h.imp (λ⟨a,b,_⟩=>⟨a,b⟩) id⟩)
   (hid λi d hij hd h0=>by
     rw[List.getElem?_map,Option.map_eq_some_iff] at hd;obtain⟨c,hc,rfl⟩:=hd;have hmc:=List.mem_of_getElem? hc;have hne:c.1≠0:=λe=>by
      have:((strT c).1==[48])=true:=by unfold strT;rw[e];simp[zie]
      rw[this] at h0;cases h0
     have hp:=h60 i c hij hc hne;rw[Bool.and_eq_true,decide_eq_true_iff,decide_eq_true_iff] at hp;obtain⟨hg,ho⟩:=G c hmc;exact⟨_,_,λW hW=>znp c.1 ho W hW,λW hW=>lnN c.2 hg.lt W hW,ygz hp.1,yg0 hp.2⟩) EN
  rcases zyf (λc:Rat×Nat=>!decide (c.1=0)&&!P c) (grG T T.length) with hgood|⟨j,c,hj,hb,hbe⟩
  ·have h60:∀c∈grG T T.length,c.1≠0->P c=true:=λc hc hne=>by simpa [hne] using hgood c hc
   refine(good (grG T T.length).length (λi c _ hc hne=>h60 c (List.mem_of_getElem? hc) hne) (hid (.inl ⟨by rw[zV],by rw[hk,zV];omega,λB W p c h1 h2 h3 h4=>by
    rw[hk,zV] at h4⊢
    exact yct B (keG T) (by omega) (z1u hp) (λt ht=>by
     have h2:=List.mem_filter.1 ht;rw[<-zuk] at h2;exact(G t h2.1).1.sz) p c W (hid λV hV=>HW.out V (h1.trans (hV.mono h2))) h3 h4⟩))).mono λe w' ⟨q',m,c',r,e1,hb,h⟩=>⟨q',m,c',r,e1,hb,?_⟩
   rcases h with⟨rfl,_,rfl,ho⟩|⟨h,h1,h2⟩
   ·refine .inl ⟨rfl,?_,λc hc=>?_,yfl ho⟩
    ·rw[hk,zV] at ho
     have:(keG T).length=(mkG T).length:=(zw5 T).1.symm;rw[hk,zV];exact SdL.own ho this
    ·obtain⟨h1,h2⟩:=zx8 hc
     have hp:=h60 c h1 h2;rw[Bool.and_eq_true,decide_eq_true_iff,decide_eq_true_iff] at hp;exact⟨hp.1,hp.2,(G c h1).1⟩
   ·exact .inr ⟨⟨h,h1.resolve_left (by rw[zV];omega)⟩,h2⟩
  ·have hmc:=List.mem_of_getElem? hj
   obtain⟨hg,ho⟩:=G c hmc;have hjl:=(List.getElem?_eq_some_iff.1 hj).1;rw[Bool.and_eq_true,Bool.not_eq_true',Bool.not_eq_true',decide_eq_false_iff_not] at hb;have hb2:(60:Int)<(max (digs c.1.num:Int) (digs (c.1.den:Int):Nat))\/((max (digs c.1.num:Int) (digs (c.1.den:Int):Nat):Int)<=60/\(40:Int)<(max (digs ((c.2:Nat):Rat).num:Int) (digs (((c.2:Nat):Rat).den:Int):Nat))):=by
    by_cases h6:sz c.1 60
    ·have n4:¬c.2<10^40:=λh4=>by
      have:P c=true:=by show(decide _&&decide _)=true;rw[decide_eq_true h6,decide_eq_true h4];rfl
      rw[this] at hb;cases hb.2
     have a1:=(zix (k:=60) (by omega)).1 h6;have a2:=(zix (k:=40) (by omega)).2 λh=>n4 ((yhl (by omega)).1 h);exact .inr ⟨by omega,a2⟩
    ·exact .inl ((zix (k:=60) (by omega)).2 h6)
   refine(good j (λi c hij hc hne=>by simpa [hne] using hbe i c hij hc) (hid (.inr ⟨(strT c).1,(strT c).2,_,_,by rw[List.getElem?_map,hj];rfl,zsf hb.1,hb2,λW hW=>znp c.1 ho W hW,λW hW=>lnN c.2 hg.lt W hW⟩))).mono λe w' ⟨q',m,c',r,e1,hb',h⟩=>⟨q',m,c',r,e1,hb',?_⟩;rcases h with⟨_,h,_⟩|⟨h,_,h2⟩
   ·rw[zV] at h;omega
   ·refine .inr ⟨⟨h,λg=>?_⟩,h2⟩
    obtain⟨k1,k2⟩:=g.2 c hmc (by simpa using hb.1);have:P c=true:=by show(decide _&&decide _)=true;rw[decide_eq_true k1,decide_eq_true k2];rfl
    rw[this] at hb;cases hb.2
 ·have L1:=lnN 1 (by decide+kernel)
  rw[show zD 1=[49] by rw[zae (by omega)];rfl] at L1;refine(core [(numS ((10^60:Nat):Rat),[49])] [] 0 (by simp) (hid λu vg h1 h2 h3 h4=>(VIS u vg h1 h2 h3 h4).mono λe w' ⟨r,e1,hb,h⟩=>⟨r,e1,hb,h.elim (λ⟨_,_,c⟩=>absurd c G) .inr⟩) (hid λi c hi=>absurd hi (by omega)) (hid (.inr ⟨_,_,_,_,rfl,zsf (by decide+kernel),.inl ((zix (k:=60) (by omega)).2 (by decide+kernel)),λW hW=>znp _ (zd0 (k:=61) (by omega) (by omega) (by decide+kernel)) W hW,L1⟩))).mono λe w' ⟨q',m,c',r,e1,hb,h⟩=>⟨q',m,c',r,e1,hb,?_⟩;rcases h with⟨_,h,_⟩|⟨h,_,h2⟩
  ·simp at h
  ·refine .inr ⟨⟨h,λg=>G (zud g (λt ht=>?_) _ (zN _))⟩,h2⟩
   rw[eT] at ht;obtain⟨u,hu,rfl⟩:=List.mem_map.1 ht;have u2:=hU.pos u hu;obtain⟨-,n0⟩:=z9b u2;obtain⟨-, -,k3,k4⟩:=zf5 (Nat.mul_pos n0 u.2.den_pos);have e1:=zd0 (k:=140+90) (by omega) (by omega) (zca (hU.csz u hu) (zpi u2 (hU.rsz u hu)));unfold nrT;dsimp only;generalize zn7 (u.2.num.natAbs*u.2.den)=z at*
   exact⟨k3,k4,e1⟩
theorem yef (v1 v2:Value) (l1 l2:List (Rat×Nat)) {d:Nat} (ok1:SdOk l1 d) (ok2:SdOk l2 d) (hlen:l1.length+l2.length<=12) (R3:Value->Int->zA->Prop) (w:zA) (HW:Hid (∀W,qL w W->Wd W)) (HP:Hid (∀W,qL w W->Pw W)) (h1:SdL v1 l1 w) (h2:SdL v2 l2 w)
 (M:∀(W:zA) (v:Value),qL w W->SdL v (l1++sclL l2 (-1)) W->zC zF 11 #[v] W λe w'=>∃q n c r,e=.returned (.tuple #[.slice q n c,.int .i64 r])/\zB W.heap.size W w'/\R3 (.slice q n c) r w') (hd:d<=40:=by omega):
 zC zF 52 #[v1,v2] w λe w'=>∃q n c r,e=.returned (.tuple #[.slice q n c,.int .i64 r])/\zB w.heap.size w w'/\R3 (.slice q n c) r w':=by
 obtain⟨p1,c1,e1, -⟩:=h1.slice;obtain⟨p2,c2,e2, -⟩:=h2.slice;have hl2:(sclL l2 (-1)).length=l2.length:=by simp[sclL]
 subst e1;subst e2;exact z0o p1 p2 l1.length l2.length c1 c2 (l1++sclL l2 (-1)).length (λq d W=>SdL (.slice q l2.length d) (sclL l2 (-1)) W) (λq d W=>SdL (.slice q (l1++sclL l2 (-1)).length d) (l1++sclL l2 (-1)) W) R3 w
  (hid (z6g _ _ (λW=>qL w W) (λW W' h h'=>h.trans (h'.mono h.size)) (hid λW hW=>zbh _ l1 ok1 W (HW.out W hW) (HP.out W hW) (h1.below hW)) (hid λW hW=>zbh _ l2 ok2 W (HW.out W hW) (HP.out W hW) (h2.below hW)) w (zM _ _)))
  (hid λW hW=>by
    have:=zkb _ l2 (-1) (by omega) (λt ht=>(ok2.trm t ht).sc.mono (by omega)) (zb7.2.2.2.2.1.mono (by omega)) W (hid λV hV=>HW.out V (hW.trans (hV.mono hW.size))) (h2.below hW);rw[show St (numS (-1))=.string ⟨#[45,49]⟩ by rw[nm_1]] at this;refine this.mono λe w' ⟨v',e1,hb,hv'⟩=>?_;obtain⟨q,d,e2, -⟩:=hv'.slice;rw[hl2] at e2;subst e2;exact⟨q,d,e1,hb,hv'⟩)
  (hid λW q d b hW hb hR k0 k1=>by
    obtain⟨W0,hB0,hR0,hBW⟩:=hR;refine(zj8 b _ _ l1 (sclL l2 (-1)) (by omega) W (h1.below hW) (hR0.below hBW) k0 k1).mono λe w' ⟨v,e1,hb',hv'⟩=>?_;obtain⟨q',d',e2, -⟩:=hv'.slice;subst e2;exact⟨q',d',e1,hb',hv'⟩)
  (hid λW q d hW hv=>M W _ hW hv)
end
section
open Go.RowKit Go.Shelf Lib Str Limb
theorem zrr (x:Rat):(x.num:Rat)=x*(x.den:Rat):=by
 have h:=Rat.num_divInt_den x;rw[Rat.divInt_eq_div] at h;have h0:((x.den:Int):Rat)≠0:=by
  have:=x.den_nz;exact_mod_cast this
 have h1:(x.num:Rat)=x*((x.den:Int):Rat):=by
  conv=>rhs;rw[<-h]
  grind
 exact_mod_cast h1
theorem yeg (q:Rat):0<=rt q:=by
 unfold rt;have h1:(0:Rat)<=((isq q.num.natAbs:Nat):Rat):=by exact_mod_cast zR _
 rcases Nat.eq_zero_or_pos (isq q.den) with h|h
 ·rw[h,show(((0:Nat)):Rat)=0 from rfl,Rat.div_def,Rat.inv_zero,Rat.mul_zero];exact Rat.le_refl
 ·rw[Rat.div_def]
  exact Rat.mul_nonneg h1 (Rat.le_of_lt (Rat.inv_pos.2 (by exact_mod_cast h)))
theorem ybw {T:List (Rat×Nat)} (hT:PosR T):PosR (mkG T):=λc hc=>(zw2 hT T.length).2 c (zx8 hc).1
theorem ybx {l m:List (Rat×Nat)} (hl:PosR l) (hm:PosR m):PosR (l++m):=λt ht=>(List.mem_append.1 ht).elim (hl t) (hm t)
theorem yby {l:List (Rat×Nat)} (h:PosR l) (c:Rat):PosR (sclL l c):=λt ht=>by
 obtain⟨u,hu,rfl⟩:=List.mem_map.1 ht;exact h u hu
end
section
open Go.RowKit Go.Shelf Lib Str Limb
attribute [local go_sem] Oper.semAt_some
def rs (q:Rat):List (Rat×Nat):=if q=0 then[] else[(q,1)]
theorem zkl (p:Option Addr) (cap:Nat) (w:zA):
 qJ 53 #[.slice p 0 cap] w (.tuple #[.int .i64 0,.int .i64 0]):=by
 go_enter Tryz.func53,Tryz.ntmps53;go_wp21;go_ret2;exact⟨rfl,zM _ _⟩
theorem zn3 (k:Nat):plN k<=64:=by
 match k with
 |0=>decide
 |1=>decide
 |_+2=>exact zN _
def trN (t:Rat×Nat) (p:Nat):Nat:=t.1.num.natAbs*t.1.num.natAbs*t.2*10^(2*p)
def flT (t:Rat×Nat) (p:Nat):Int:=floT t.1 (isq (trN t p)) (trN t p)
def valZ:List (Rat×Nat)->Nat->Int
 |[],_=>0
 |t::l,p=>flT t p+valZ l p
theorem zrt (p:Nat):∀l m:List (Rat×Nat),valZ (l++m) p=valZ l p+valZ m p
 |[],m=>by simp[valZ]
 |t::l,m=>by
  rw[List.cons_append];show flT t p+valZ (l++m) p=flT t p+valZ l p+valZ m p;rw[zrt p l m];omega
theorem znz {l:List (Rat×Nat)} {i:Nat} {t:Rat×Nat} (h:l[i]? =some t) (p:Nat):valZ (l.take (i+1)) p=valZ (l.take i) p+flT t p:=by
 rw[List.take_add_one,h,zrt];show _+(flT t p+0)=_;omega
def sgnL (l:List (Rat×Nat)):Int:=if l=[] then 0 else sgnP l.length λk=>valZ l (plN k)
def sgeL (l:List (Rat×Nat)):Int:=if l=[] then 0 else errP (sgnL l)
theorem zvi {t:Rat×Nat} {d:Nat} (h:TrmR t.1 t.2 d) (hd:d<=40) (k:Nat):trN t (plN k)<10^144*10^144:=by
 have h1:=h.sc.1;have h2:t.2<10^40:=(zaf _ 40 (by omega)).1 (zO h.nr.len hd);have h3:(10:Nat)^(2*plN k)<=10^128:=Nat.pow_le_pow_right (by omega) (by have:=zn3 k;omega);have h4:t.1.num.natAbs*t.1.num.natAbs*t.2<10^160:=zcc (i:=120) (j:=40) (zcc (i:=60) (j:=60) h1 h1) h2;unfold trN
 calc _<10^160*10^(2*plN k):=Nat.mul_lt_mul_of_pos_right h4 (yS (by simp))
  _<=10^160*10^128:=Nat.mul_le_mul_left _ h3
  _=10^144*10^144:=by decide+kernel
theorem zz9 {n:Nat} (h:n<10^144*10^144):isq n<10^144:=Nat.mul_self_lt_mul_self_iff.1 (Nat.lt_of_le_of_lt (zv0 n).1 h)
theorem zzb {t:Rat×Nat} {d:Nat} (h:TrmR t.1 t.2 d) (hd:d<=40) (k:Nat):(zD (trN t (plN k))).length<=290:=by
 have:(10:Nat)^144*10^144<=10^290:=by decide+kernel
 exact zil (by omega) (zS (zvi h hd k) this)
theorem zvj {t:Rat×Nat} {d:Nat} (h:TrmR t.1 t.2 d) (hd:d<=40) (k:Nat):(flT t (plN k)).natAbs<=10^144:=by
 have hs:=zz9 (zvi h hd k);have hdv:=Nat.div_le_self (isq (trN t (plN k))) t.1.den;unfold flT floT;generalize isq (trN t (plN k))/t.1.den=x at*
 split
 ·rw[Int.natAbs_neg,Int.natAbs_natCast]
  split<;>omega
 ·rw[Int.natAbs_natCast]
  omega
theorem zzd {l:List (Rat×Nat)} {d:Nat} (h:∀t∈l,TrmR t.1 t.2 d) (hd:d<=40) (k:Nat):(valZ l (plN k)).natAbs<=l.length*10^144:=by
 induction l with
 |nil=>simp[valZ]
 |cons t l ih=>
  have h1:=zvj (h t (yD ..)) hd k;have h2:=ih λu hu=>h u (List.mem_cons_of_mem _ hu);show(flT t (plN k)+valZ l (plN k)).natAbs<=(l.length+1)*10^144;rw[Nat.add_mul,Nat.one_mul];omega
theorem z0a (v:Value) (l:List (Rat×Nat)) {d:Nat} (h:SdOk l d) (w:zA) (hw:Wd w) (hp:Spw w) (hv:SdL v l w) (hd:d<=40:=by omega):
 qJ 53 #[v] w (.tuple #[.int .i64 (sgnL l),.int .i64 (sgeL l)]):=by
 obtain⟨p,cap,rfl, -,hx⟩:=hv.slice;by_cases h0:l=[]
 ·subst h0
  exact zkl p cap w
 have hl0:0<l.length:=List.length_pos_iff.2 h0;have hl:=h.len;rw[show sgeL l=errP (sgnL l) from if_neg h0,show sgnL l=sgnP l.length λk=>valZ l (plN k) from if_neg h0];have z48:zE 0=[48]:=zb9;have z49:zE 1=[49]:=by rw[show(1:Int)=((1:Nat):Int) from rfl,Str.zad,zae (by omega)];rfl
 have dz:∀z:Int,z.natAbs<=12*10^144+12->digs z<=300:=λz hz=>by
  have p1:12*(10:Nat)^144+12<10^150:=by decide+kernel
  exact zO (zhd (k:=150) (by omega) (by omega)) (by omega)
 have vb:∀(k i:Nat),(valZ (l.take i) (plN k)).natAbs<=12*10^144:=λk i=>by
  have h1:=zzd (l:=l.take i) (λt ht=>h.trm t (List.mem_of_mem_take ht)) hd k;have h2:(l.take i).length<=12:=by rw[List.length_take];omega
  exact zO h1 (Nat.mul_le_mul_right _ h2)
 have at_:∀i,i<l.length->∃t,l[i]? =some t:=λi hi=>⟨_,yB hi⟩;have hg:∀(i:Nat) (t:Rat×Nat),l[i]? =some t->l[i]?.getD (1,1)=t:=λi t h=>by rw[h];rfl
 have hall:=zj5 p cap l.length hl0 (by omega) (λi=>numS (l[i]?.getD (1,1)).1) (λi=>zD (l[i]?.getD (1,1)).2) (λk i=>flT (l[i]?.getD (1,1)) (plN k)) (λk i=>valZ (l.take i) (plN k)) (hid λk=>rfl)
  (hid λk i hk hi W hW=>by
    obtain⟨t,ht⟩:=at_ i hi;rw[hg i t ht];have htr:=h.trm t (List.mem_of_getElem? ht);exact zul t.1 t.2 (plN k) (isq (trN t (plN k))) (trN t (plN k)) (zd0 (by omega) (by omega) htr.sc) htr.ne htr.nr.pos (by have:=zn3 k;omega) rfl (zzb htr hd k) (zv0 _) W hW)
  (hid λk i hk hi W hW=>by
    obtain⟨t,ht⟩:=at_ i hi;rw[hg i t ht,znz ht];have h1:=vb k i;have h2:=vb k (i+1);rw[znz ht] at h2;have h3:=zvj (h.trm t (List.mem_of_getElem? ht)) hd k;exact zva _ _ (dz _ (by omega)) (dz _ (by omega)) (dz _ (by omega)) W hW)
  (hid λk j hk hj W hW=>by
    have h1:=vb k l.length;have:=zva (valZ (l.take l.length) (plN k)+(j:Int)) 1 (dz _ (by omega)) (dz _ (by omega)) (dz _ (by omega)) W hW;rw[z49,show valZ (l.take l.length) (plN k)+(j:Int)+1=valZ (l.take l.length) (plN k)+((j+1:Nat):Int) by omega] at this;exact this)
  (hid λk j hk hj W hW=>by
    have h1:=vb k l.length;have:=zsx (valZ (l.take l.length) (plN k)+(j:Int)) 0 (dz _ (by omega)) (dz _ (by omega)) W;rw[z48] at this;exact this)
  w (hid hw) (hid hp)
  (hid λi hi=>by
    obtain⟨t,ht⟩:=at_ i hi;rw[hg i t ht];exact hx i t ht)
 rw[List.take_length] at hall;exact hall
theorem zpf {a b:Nat} (h:a*a<=b*b):a<=b:=Nat.mul_self_le_mul_self_iff.1 h
theorem zx7 {a b:Nat} (h:a*a<b*b):a<b:=Nat.mul_self_lt_mul_self_iff.1 h
theorem zn0 (M d p q:Nat) (hd:0<d):
 (isq (M*10^(2*p))/d)*10^q<=(isq (M*10^(2*q))/d+(if isq (M*10^(2*q))*isq (M*10^(2*q))=M*10^(2*q)/\isq (M*10^(2*q))%d=0 then 0 else 1))*10^p/\
 (isq (M*10^(2*q))/d+(if isq (M*10^(2*q))*isq (M*10^(2*q))=M*10^(2*q)/\isq (M*10^(2*q))%d=0 then 0 else 1))*10^p<(isq (M*10^(2*p))/d+1)*10^q+10^p:=by
 obtain⟨s1,s2⟩:=zv0 (M*10^(2*p));obtain⟨r1,r2⟩:=zv0 (M*10^(2*q));generalize isq (M*10^(2*p))=s at*
 generalize isq (M*10^(2*q))=r at*
 have ep:(10:Nat)^(2*p)=10^p*10^p:=by rw[Nat.two_mul,Nat.pow_add]
 have eq:(10:Nat)^(2*q)=10^q*10^q:=by rw[Nat.two_mul,Nat.pow_add]
 rw[ep] at s1 s2;rw[eq] at r1 r2⊢;have hP:0<(10:Nat)^p:=yS (by simp);have hQ:0<(10:Nat)^q:=yS (by simp);generalize (10:Nat)^p=P at*
 generalize (10:Nat)^q=Q at*
 have a1:s/d*d<=s:=Nat.div_mul_le_self s d;have a2:s<(s/d+1)*d:=by
  have:=Nat.lt_div_mul_add hd (a:=s);rw[Nat.add_mul,Nat.one_mul];exact this
 have b1:r/d*d<=r:=Nat.div_mul_le_self r d;have b2:r<(r/d+1)*d:=by
  have:=Nat.lt_div_mul_add hd (a:=r);rw[Nat.add_mul,Nat.one_mul];exact this
 have b3:r%d=0->r/d*d=r:=λh=>Nat.div_mul_cancel (Nat.dvd_of_mod_eq_zero h);generalize s/d=x at*
 generalize r/d=y at*
 have c1:(x*d)*(x*d)<=M*(P*P):=zO (Nat.mul_le_mul a1 a1) s1;have c2:M*(P*P)<((x+1)*d)*((x+1)*d):=zS s2 (Nat.mul_le_mul a2 a2);have c3:(y*d)*(y*d)<=M*(Q*Q):=zO (Nat.mul_le_mul b1 b1) r1;have mono:∀{a b c:Nat},a<=b->a*c<=b*c:=λh=>Nat.mul_le_mul_right _ h;constructor
 ·split
  ·rename_i h
   have c4:(y*d)*(y*d)=M*(Q*Q):=by rw[b3 h.2];exact h.1
   have:(x*Q*d)*(x*Q*d)<=(y*P*d)*(y*P*d):=by
    calc (x*Q*d)*(x*Q*d)=(x*d)*(x*d)*(Q*Q):=by ac_rfl
     _<=M*(P*P)*(Q*Q):=mono c1
     _=M*(Q*Q)*(P*P):=by ac_rfl
     _=(y*d)*(y*d)*(P*P):=by rw[c4]
     _=(y*P*d)*(y*P*d):=by ac_rfl
   have:=zpf this;exact Nat.le_of_mul_le_mul_right this hd
  ·have c4:M*(Q*Q)<=((y+1)*d)*((y+1)*d):=zT (zS r2 (Nat.mul_le_mul b2 b2))
   have:(x*Q*d)*(x*Q*d)<=((y+1)*P*d)*((y+1)*P*d):=by
    calc (x*Q*d)*(x*Q*d)=(x*d)*(x*d)*(Q*Q):=by ac_rfl
     _<=M*(P*P)*(Q*Q):=mono c1
     _=M*(Q*Q)*(P*P):=by ac_rfl
     _<=((y+1)*d)*((y+1)*d)*(P*P):=mono c4
     _=((y+1)*P*d)*((y+1)*P*d):=by ac_rfl
   have:=zpf this;exact Nat.le_of_mul_le_mul_right this hd
 ·have:(y*P*d)*(y*P*d)<((x+1)*Q*d)*((x+1)*Q*d):=by
   calc (y*P*d)*(y*P*d)=(y*d)*(y*d)*(P*P):=by ac_rfl
    _<=M*(Q*Q)*(P*P):=mono c3
    _=M*(P*P)*(Q*Q):=by ac_rfl
    _<((x+1)*d)*((x+1)*d)*(Q*Q):=Nat.mul_lt_mul_of_pos_right c2 (Nat.mul_pos hQ hQ)
    _=((x+1)*Q*d)*((x+1)*Q*d):=by ac_rfl
  have:=zx7 this;have:y*P<(x+1)*Q:=Nat.lt_of_mul_lt_mul_right this;rw[Nat.add_mul];split
  ·rw[Nat.zero_mul];omega
  ·rw[Nat.one_mul];omega
theorem z0c (c:Rat):(-c).num= -c.num/\(-c).den=c.den:=⟨rfl,rfl⟩
theorem zvk (t:Rat×Nat) (hne:t.1≠0) (p q:Nat):
 flT t p*(10^q:Nat)+flT (ngT t) q*(10^p:Nat)<=0/\0<(flT t p+1)*(10^q:Nat)+(flT (ngT t) q+1)*(10^p:Nat):=by
 have hn0:t.1.num≠0:=λe=>hne (Rat.num_eq_zero.1 e);have hd:=t.1.den_pos;obtain⟨n1,n2⟩:=z0c t.1;have hM:trN (ngT t) q=t.1.num.natAbs*t.1.num.natAbs*t.2*10^(2*q):=by
  show(-t.1).num.natAbs*(-t.1).num.natAbs*t.2*10^(2*q)=_;rw[n1,Int.natAbs_neg]
 have hM0:trN t p=t.1.num.natAbs*t.1.num.natAbs*t.2*10^(2*p):=rfl;unfold flT floT;rw[hM,hM0,show(ngT t).1= -t.1 from rfl,n1,n2];generalize t.1.num.natAbs*t.1.num.natAbs*t.2=M;by_cases hs:t.1.num<0
 ·rw[if_pos hs,if_neg (show ¬ -t.1.num<0 by omega)]
  obtain⟨f1,f2⟩:=zn0 M t.1.den q p hd;generalize isq (M*10^(2*q))/t.1.den=x at*
  generalize (isq (M*10^(2*p))/t.1.den+if isq (M*10^(2*p))*isq (M*10^(2*p))=M*10^(2*p)/\isq (M*10^(2*p))%t.1.den=0 then 0 else 1)=y at*
  generalize (10:Nat)^p=P at*
  generalize (10:Nat)^q=Q at*
  have g1:((x*P:Nat):Int)<=((y*Q:Nat):Int):=by exact_mod_cast f1
  have g2:((y*Q:Nat):Int)<(((x+1)*P+Q:Nat):Int):=by exact_mod_cast f2
  simp only[Int.natCast_mul,Int.natCast_add,Int.natCast_one] at g1 g2;rw[Int.neg_mul,Int.add_mul,Int.add_mul,Int.neg_mul];rw[Int.add_mul] at g2;simp only[Int.one_mul] at*
  omega
 ·rw[if_neg hs,if_pos (show-t.1.num<0 by have:=hn0;omega)]
  obtain⟨f1,f2⟩:=zn0 M t.1.den p q hd;generalize isq (M*10^(2*p))/t.1.den=x at*
  generalize (isq (M*10^(2*q))/t.1.den+if isq (M*10^(2*q))*isq (M*10^(2*q))=M*10^(2*q)/\isq (M*10^(2*q))%t.1.den=0 then 0 else 1)=y at*
  generalize (10:Nat)^p=P at*
  generalize (10:Nat)^q=Q at*
  have g1:((x*Q:Nat):Int)<=((y*P:Nat):Int):=by exact_mod_cast f1
  have g2:((y*P:Nat):Int)<(((x+1)*Q+P:Nat):Int):=by exact_mod_cast f2
  simp only[Int.natCast_mul,Int.natCast_add,Int.natCast_one] at g1 g2;rw[Int.neg_mul,Int.add_mul,Int.add_mul,Int.neg_mul];rw[Int.add_mul] at g2;simp only[Int.one_mul] at*
  omega
theorem zg3 (n:Nat) (Z:Nat->Int):(sgnP n Z=1/\∃k,0<Z k)\/(sgnP n Z= -1/\∃k,Z k+n<=0)\/sgnP n Z=0:=by
 have r:∀k,(zap n k (Z k)=1/\0<Z k)\/(zap n k (Z k)= -1/\Z k+n<=0)\/zap n k (Z k)=0:=λk=>by
  unfold zap;split
  ·exact .inl ⟨rfl,by assumption⟩
  ·split
   ·exact .inr (.inl ⟨rfl,by omega⟩)
   ·exact .inr (.inr rfl)
 unfold sgnP;split
 ·rcases r 0 with⟨h,k⟩|⟨h,k⟩|h
  ·exact .inl ⟨h,0,k⟩
  ·exact .inr (.inl ⟨h,0,k⟩)
  ·exact .inr (.inr h)
 ·split
  ·rcases r 1 with⟨h,k⟩|⟨h,k⟩|h
   ·exact .inl ⟨h,1,k⟩
   ·exact .inr (.inl ⟨h,1,k⟩)
   ·exact .inr (.inr h)
  ·rcases r 2 with⟨h,k⟩|⟨h,k⟩|h
   ·exact .inl ⟨h,2,k⟩
   ·exact .inr (.inl ⟨h,2,k⟩)
   ·exact .inr (.inr h)
end
section
open Go.RowKit Go.Shelf Lib Str Limb
def Bd (f:Nat->Rat):Prop:=∃K:Rat,∀q, -K<=f q/\f q<=K
theorem Bd.add {f g:Nat->Rat} (hf:Bd f) (hg:Bd g):Bd λq=>f q+g q:=by
 obtain⟨K,h⟩:=hf;obtain⟨L,k⟩:=hg;exact⟨K+L,λq=>by have:=h q;have:=k q;constructor<;>grind⟩
theorem Bd.neg {f:Nat->Rat} (hf:Bd f):Bd λq=> -f q:=by
 obtain⟨K,h⟩:=hf;exact⟨K,λq=>by have:=h q;constructor<;>grind⟩
theorem Bd.zero:Bd λ_=>0:=⟨0,λ_=>by constructor<;>grind⟩
theorem Bd.congr {f g:Nat->Rat} (hf:Bd f) (h:∀q,g q=f q):Bd g:=by
 obtain⟨K,k⟩:=hf;exact⟨K,λq=>by rw[h];exact k q⟩
theorem Bd.smul {f:Nat->Rat} (hf:Bd f) (c:Rat):Bd λq=>c*f q:=by
 obtain⟨K,h⟩:=hf;rcases(show 0<=c\/0<= -c by grind) with hc|hc
 ·refine⟨c*K,λq=>?_⟩
  have h1:=Rat.mul_le_mul_of_nonneg_left (h q).1 hc;have h2:=Rat.mul_le_mul_of_nonneg_left (h q).2 hc;constructor<;>grind
 ·refine⟨-c*K,λq=>?_⟩
  have h1:=Rat.mul_le_mul_of_nonneg_left (h q).1 hc;have h2:=Rat.mul_le_mul_of_nonneg_left (h q).2 hc;constructor<;>grind
def rtF (r q:Nat):Nat:=isq (r*10^(2*q))
theorem zvo {a b r s:Nat} (h:b*b*r=a*a*s) (q:Nat):a*rtF s q<=b*rtF r q+b/\b*rtF r q<=a*rtF s q+a:=by
 obtain⟨r1,r2⟩:=zv0 (r*10^(2*q));obtain⟨s1,s2⟩:=zv0 (s*10^(2*q));unfold rtF;generalize isq (r*10^(2*q))=x at*
 generalize isq (s*10^(2*q))=y at*
 generalize 10^(2*q)=M at*
 have e:b*b*(r*M)=a*a*(s*M):=by rw[<-Nat.mul_assoc,h,Nat.mul_assoc]
 constructor
 ·refine zpf ?_
  calc a*y*(a*y)=a*a*(y*y):=by ac_rfl
   _<=a*a*(s*M):=Nat.mul_le_mul_left _ s1
   _=b*b*(r*M):=e.symm
   _<=b*b*((x+1)*(x+1)):=Nat.mul_le_mul_left _ (zT r2)
   _=(b*x+b)*(b*x+b):=by rw[show b*x+b=b*(x+1) by rw[Nat.mul_add,Nat.mul_one]];ac_rfl
 ·refine zpf ?_
  calc b*x*(b*x)=b*b*(x*x):=by ac_rfl
   _<=b*b*(r*M):=Nat.mul_le_mul_left _ r1
   _=a*a*(s*M):=e
   _<=a*a*((y+1)*(y+1)):=Nat.mul_le_mul_left _ (zT s2)
   _=(a*y+a)*(a*y+a):=by rw[show a*y+a=a*(y+1) by rw[Nat.mul_add,Nat.mul_one]];ac_rfl
theorem zvp (n r q:Nat):n*rtF r q<=isq (n*n*r*10^(2*q))+1/\isq (n*n*r*10^(2*q))<=n*rtF r q+n:=by
 have h:=zvo (a:=n) (b:=1) (r:=n*n*r) (s:=r) (by simp) q;rw[Nat.one_mul] at h;exact h
theorem zn1 {x m d:Rat} (hd:1<=d) (hm:0<=m) (h:x*d<=m):x<=m:=by
 rcases(show x<=m\/m<x by grind) with k|k
 ·exact k
 ·have:=Rat.mul_le_mul_of_nonneg_left hd (show 0<=x by grind)
  grind
theorem ztd {c:Rat} {m d s z y:Nat} (hd:0<d) (hc:c*(d:Rat)=(m:Rat)) (h1:m*y<=s+1) (h2:s<=m*y+m) (a1:z*d<=s) (a2:s<(z+1)*d): -2<=(z:Rat)-c*(y:Rat)/\(z:Rat)-c*(y:Rat)<=(m:Rat):=by
 have hd1:(1:Rat)<=(d:Rat):=by exact_mod_cast hd
 have b1:(m:Rat)*(y:Rat)<=(s:Rat)+1:=by exact_mod_cast h1
 have b2:(s:Rat)<=(m:Rat)*(y:Rat)+(m:Rat):=by exact_mod_cast h2
 have b3:(z:Rat)*(d:Rat)<=(s:Rat):=by exact_mod_cast a1
 have b4:(s:Rat)<((z:Rat)+1)*(d:Rat):=by exact_mod_cast a2
 have b5:(0:Rat)<=(m:Rat):=by exact_mod_cast zR m
 have e:c*(y:Rat)*(d:Rat)=(m:Rat)*(y:Rat):=by rw[<-hc];grind
 generalize (m:Rat)=M at*
 generalize (d:Rat)=D at*
 generalize (s:Rat)=S at*
 generalize (z:Rat)=Z at*
 generalize (y:Rat)=Y at*
 constructor
 ·have:=zn1 (x:= -(Z-c*Y+1)) (m:=1) hd1 (by decide) (by grind)
  grind
 ·exact zn1 hd1 b5 (by grind)
theorem zvq (t:Rat×Nat) (q:Nat): -(((t.1.num.natAbs:Nat):Rat)+3)<=((flT t q:Int):Rat)-t.1*((rtF t.2 q:Nat):Rat)/\((flT t q:Int):Rat)-t.1*((rtF t.2 q:Nat):Rat)<=((t.1.num.natAbs:Nat):Rat)+3:=by
 obtain⟨c,r⟩:=t;have hd:0<c.den:=c.den_pos;have nd:=zrr c;obtain⟨h1,h2⟩:=zvp c.num.natAbs r q;have h3:c.num.natAbs*c.num.natAbs*r*10^(2*q)=trN (c,r) q:=rfl;rw[h3] at h1 h2;have b5:(0:Rat)<=((c.num.natAbs:Nat):Rat):=by exact_mod_cast zR _
 show-_<=((floT c (isq (trN (c,r) q)) (trN (c,r) q):Int):Rat)-c*((rtF r q:Nat):Rat)/\((floT c (isq (trN (c,r) q)) (trN (c,r) q):Int):Rat)-c*((rtF r q:Nat):Rat)<=_;unfold floT;have a1:isq (trN (c,r) q)/c.den*c.den<=isq (trN (c,r) q):=Nat.div_mul_le_self _ _;have a2:isq (trN (c,r) q)<(isq (trN (c,r) q)/c.den+1)*c.den:=by
  have:=Nat.lt_div_mul_add hd (a:=isq (trN (c,r) q));rw[Nat.add_mul,Nat.one_mul];exact this
 by_cases hn:c.num<0
 ·rw[if_pos hn]
  have e: -c*(c.den:Rat)=((c.num.natAbs:Nat):Rat):=by
   have e1:((c.num.natAbs:Nat):Int)= -c.num:=by omega
   have e2:((c.num.natAbs:Nat):Rat)=((-c.num:Int):Rat):=by rw[<-e1];rfl
   rw[e2,Rat.intCast_neg,nd];grind
  have k:=ztd (c:= -c) hd e h1 h2 a1 a2;generalize isq (trN (c,r) q)/c.den=z at*
  have h01:∃ε:Nat,ε<=1/\(if isq (trN (c,r) q)*isq (trN (c,r) q)=trN (c,r) q/\isq (trN (c,r) q)%c.den=0 then 0 else 1)=ε:=by split;exact⟨0,by omega,rfl⟩;exact⟨1,by omega,rfl⟩
  obtain⟨ε,he,hε⟩:=h01;rw[hε,Rat.intCast_neg,Rat.intCast_natCast,Rat.natCast_add];have he1:(ε:Rat)<=1:=by exact_mod_cast he
  have he0:(0:Rat)<=(ε:Rat):=by exact_mod_cast zR ε
  generalize (ε:Rat)=E at*
  constructor<;>grind
 ·rw[if_neg hn]
  have e:c*(c.den:Rat)=((c.num.natAbs:Nat):Rat):=by
   have e1:((c.num.natAbs:Nat):Int)=c.num:=by omega
   have e2:((c.num.natAbs:Nat):Rat)=((c.num:Int):Rat):=by rw[<-e1];rfl
   rw[e2,nd]
  have k:=ztd hd e h1 h2 a1 a2;rw[Rat.intCast_natCast];constructor<;>grind
theorem zpl (t:Rat×Nat):Bd λq=>((flT t q:Int):Rat)-t.1*((rtF t.2 q:Nat):Rat):=⟨_,zvq t⟩
def vZ (l:List (Rat×Nat)) (q:Nat):Rat:=((valZ l q:Int):Rat)
theorem zfu (q:Nat):vZ [] q=0:=rfl
theorem zfb (t:Rat×Nat) (l:List (Rat×Nat)) (q:Nat):vZ (t::l) q=((flT t q:Int):Rat)+vZ l q:=by
 show(((flT t q+valZ l q:Int)):Rat)=_;rw[Rat.intCast_add];rfl
theorem z5s (l m:List (Rat×Nat)) (q:Nat):vZ (l++m) q=vZ l q+vZ m q:=by
 unfold vZ;rw[zrt,Rat.intCast_add]
theorem z8q {r s:Nat} (hr:0<r) (hs:0<s) (h:z5c (r:Rat) (s:Rat)=true):Bd λq=>((rtF r q:Nat):Rat)-rt ((r:Rat)/(s:Rat))*((rtF s q:Nat):Rat):=by
 have hr':(0:Rat)<(r:Rat):=by exact_mod_cast hr
 have hs':(0:Rat)<(s:Rat):=by exact_mod_cast hs
 have e:=zxd (div_pos hr' hs') h;have hk:=yeg ((r:Rat)/(s:Rat));generalize rt ((r:Rat)/(s:Rat))=k at*
 have hd:0<k.den:=k.den_pos;have nd:=zrr k;have hn:0<=k.num:=Rat.num_nonneg.2 hk;have e2:((k.num.natAbs:Nat):Rat)=k*(k.den:Rat):=by
  rw[<-nd];have:((k.num.natAbs:Nat):Int)=k.num:=Int.natAbs_of_nonneg hn;exact_mod_cast congrArg (Int.cast (R:=Rat)) this
 have hb:k.den*k.den*r=k.num.natAbs*k.num.natAbs*s:=by
  have:(k.den:Rat)*(k.den:Rat)*(r:Rat)=((k.num.natAbs:Nat):Rat)*((k.num.natAbs:Nat):Rat)*(s:Rat):=by
   rw[e2];have e3:k*k*(s:Rat)=(r:Rat):=by rw[e];grind
   rw[<-e3];grind
  exact_mod_cast this
 refine⟨1+((k.num.natAbs:Nat):Rat),λq=>?_⟩;dsimp only;obtain⟨h1,h2⟩:=zvo hb q;have hd1:(1:Rat)<=(k.den:Rat):=by exact_mod_cast hd
 have b1:((k.num.natAbs:Nat):Rat)*((rtF s q:Nat):Rat)<=(k.den:Rat)*((rtF r q:Nat):Rat)+(k.den:Rat):=by exact_mod_cast h1
 have b2:(k.den:Rat)*((rtF r q:Nat):Rat)<=((k.num.natAbs:Nat):Rat)*((rtF s q:Nat):Rat)+((k.num.natAbs:Nat):Rat):=by exact_mod_cast h2
 have b3:(0:Rat)<=((k.num.natAbs:Nat):Rat):=by exact_mod_cast zR _
 generalize ((rtF r q:Nat):Rat)=x at*
 generalize ((rtF s q:Nat):Rat)=y at*
 generalize ((k.num.natAbs:Nat):Rat)=m at*
 generalize (k.den:Rat)=d at*
 constructor
 ·have:=zn1 (x:= -(x-k*y+1)) (m:=0) hd1 (by decide) (by rw[e2] at b1;grind)
  grind
 ·have:=zn1 (x:=x-k*y) hd1 b3 (by rw[e2] at b2⊢;grind)
  grind
theorem ycy {c t:Rat×Nat} (hc:0<c.2) (ht:0<t.2) (h:z5c (t.2:Rat) (c.2:Rat)=true):Bd λq=>((flT (plG c t) q:Int):Rat)-(((flT c q:Int):Rat)+((flT t q:Int):Rat)):=by
 have hc':(0:Rat)<(c.2:Rat):=by exact_mod_cast hc
 have ht':(0:Rat)<(t.2:Rat):=by exact_mod_cast ht
 unfold plG;split
 ·refine((zpl (t.1+c.1*rt ((c.2:Rat)/(t.2:Rat)),t.2)).add (((zpl c).add (zpl t)).neg.add ((z8q hc ht (zu5 ht' hc' h)).smul c.1).neg)).congr λq=>?_
  dsimp only;grind
 ·refine((zpl (c.1+t.1*rt ((t.2:Rat)/(c.2:Rat)),c.2)).add (((zpl c).add (zpl t)).neg.add ((z8q ht hc h).smul t.1).neg)).congr λq=>?_
  dsimp only;grind
theorem z8r {t:Rat×Nat} (ht:(0:Rat)<(t.2:Rat)):∀{l:List (Rat×Nat)},PosR l->Bd λq=>vZ (gaG l t) q-(vZ l q+((flT t q:Int):Rat))
 |[],_=>Bd.zero.congr λq=>by show vZ [t] q-_=0;rw[zfb,zfu];grind
 |c::l,h=>by
  have hc:=h c (yD ..);unfold gaG;split
  ·rename_i k
   exact(ycy (by exact_mod_cast hc) (by exact_mod_cast ht) k).congr λq=>by rw[zfb,zfb];grind
  ·exact(z8r ht λd hd=>h d (List.mem_cons_of_mem _ hd)).congr λq=>by rw[zfb,zfb];grind
theorem z8u:∀{T A:List (Rat×Nat)},PosR A->PosR T->Bd λq=>vZ (T.foldl gaG A) q-(vZ A q+vZ T q)
 |[],A,_,_=>Bd.zero.congr λq=>by rw[List.foldl_nil,zfu];grind
 |t::T,A,hA,hT=>by
  have ht:=hT t (yD ..);have hA':PosR (gaG A t):=λc hc=>by
   rcases z44 hc with⟨d,hd,e⟩|e
   ·rw[<-e];exact hA d hd
   ·rw[<-e];exact ht
  rw[List.foldl_cons];exact((z8u hA' λc hc=>hT c (List.mem_cons_of_mem _ hc)).add (z8r ht hA)).congr λq=>by rw[zfb];grind
theorem ycz (r q:Nat):flT (0,r) q=0:=by
 unfold flT floT trN;simp[isq];rfl
theorem z2e (q:Nat):∀l:List (Rat×Nat),vZ (l.filter λc=>!decide (c.1=0)) q=vZ l q
 |[]=>rfl
 |t::l=>by
  rw[List.filter_cons];by_cases h:t.1=0
  ·rw[if_neg (by simp[h]),z2e q l,zfb]
   have:flT t q=0:=by
    have:=ycz t.2 q;rw[<-h] at this;exact this
   rw[this];grind
  ·rw[if_pos (by simp[h]),zfb,zfb,z2e q l]
theorem yah (q:Nat) (t:Rat×Nat):∀l:List (Rat×Nat),vZ (insS t l) q=((flT t q:Int):Rat)+vZ l q
 |[]=>zfb t [] q
 |c::l=>by
  unfold insS;split
  ·exact zfb t (c::l) q
  ·rw[zfb,zfb,yah q t l];grind
theorem yai (q:Nat):∀l:List (Rat×Nat),vZ (srtS l) q=vZ l q
 |[]=>rfl
 |t::l=>by rw[show srtS (t::l)=insS t (srtS l) from rfl,yah,yai q l,zfb]
theorem yc0 {T:List (Rat×Nat)} (hT:PosR T):Bd λq=>vZ (mkG T) q-vZ T q:=
 (z8u (A:=[]) (λ_ h=>by cases h) hT).congr λq=>by
   unfold mkG keG;rw[yai,z2e,zfu];grind
theorem z5t (c:Rat):∀l:List (Rat×Nat),Bd λq=>vZ (sclL l c) q-c*vZ l q
 |[]=>Bd.zero.congr λq=>by rw[zfu];show vZ [] q-_=0;rw[zfu];grind
 |t::l=>by
  refine((z5t c l).add ((zpl (t.1*c,t.2)).add ((zpl t).smul c).neg)).congr λq=>?_;rw[zfb,show sclL (t::l) c=(t.1*c,t.2)::sclL l c from rfl,zfb];grind
theorem zze {t:Rat×Nat} (hne:t.1≠0) (p q:Nat):flT t p*(10^q:Nat)<=(flT t q+1)*(10^p:Nat):=by
 have h1:=(zvk t hne p q).1;have h2:=(zvk t hne q q).2;have hP:(0:Int)<((10^p:Nat):Int):=by exact_mod_cast yS (by simp)
 have hQ:(0:Int)<((10^q:Nat):Int):=by exact_mod_cast yS (by simp)
 generalize ((10^p:Nat):Int)=P at*
 generalize ((10^q:Nat):Int)=Q at*
 generalize flT t p=a at*
 generalize flT t q=b at*
 generalize flT (ngT t) q=g at*
 rw[<-Int.add_mul] at h2;have h3:0<b+1+(g+1):=by
  rcases(show 0<b+1+(g+1)\/b+1+(g+1)<=0 by omega) with k|k
  ·exact k
  ·have:=Int.mul_le_mul_of_nonneg_right k (Int.le_of_lt hQ)
   omega
 have h4:=Int.mul_le_mul_of_nonneg_right (show-(b+1)<=g by omega) (Int.le_of_lt hP);rw[Int.neg_mul] at h4;omega
theorem zle (p q:Nat):∀l:List (Rat×Nat),(∀t∈l,t.1≠0)->valZ l p*(10^q:Nat)<=(valZ l q+l.length)*(10^p:Nat)
 |[],_=>by show(0:Int)*_<=(0+((0:Nat):Int))*_;simp
 |t::l,h=>by
  have h1:=zze (h t (yD ..)) p q;have h2:=zle p q l λc hc=>h c (List.mem_cons_of_mem _ hc);show(flT t p+valZ l p)*_<=(flT t q+valZ l q+((l.length+1:Nat):Int))*_;generalize ((10^p:Nat):Int)=P at*
  generalize ((10^q:Nat):Int)=Q at*
  have e:(flT t q+valZ l q+((l.length+1:Nat):Int))*P=(flT t q+1)*P+(valZ l q+(l.length:Int))*P:=by
   rw[<-Int.add_mul];congr 1;omega
  rw[e,Int.add_mul];omega
theorem yc1 (C:Rat):∃q:Nat,C<((10^q:Nat):Rat):=by
 refine⟨C.num.natAbs,?_⟩;have h1:C.num.natAbs<10^C.num.natAbs:=Nat.lt_pow_self (by omega);have h2:((C.num.natAbs:Nat):Rat)<((10^C.num.natAbs:Nat):Rat):=by exact_mod_cast h1
 have nd:=zrr C;have hd:(1:Rat)<=(C.den:Rat):=by exact_mod_cast C.den_pos
 have h3:((C.num:Int):Rat)<=((C.num.natAbs:Nat):Rat):=by
  have:C.num<=((C.num.natAbs:Nat):Int):=by omega
  exact_mod_cast this
 have h4:(0:Rat)<=((C.num.natAbs:Nat):Rat):=by exact_mod_cast zR _
 have:=zn1 hd h4 (x:=C) (by rw[<-nd];exact h3);grind
end
section
open Go.RowKit Go.Shelf Lib Str Limb
attribute [local go_sem] Oper.semAt_some
def b2 (b:Rat):List (Rat×Nat):=[(b,2)]
section
variable {w W W':zA} {o:Nat} {a b c a' b' c':List UInt8} {d d':Value} {l:List (Rat×Nat)} {f g:Nat->Bool}
end
section
variable {w W W':zA} {a b c a2 b2 c2:List UInt8} {v d:Value} {l l2:List (Rat×Nat)} {f g:Nat->Bool}
end
section
variable {w W W':zA} {s0 s1 s2 p0 p1 p2:Value} {x0 x1 x2:List UInt8}
end
section
variable {w W W':zA} {P:Nat} {p0 p1 p2:Value} {x0 x1 x2:List UInt8}
end
section
variable {w W W':zA} {a b c:List UInt8} {d s0 s1 s2 r:Value} {M:List (Rat×Nat)} {E F:Prop} {er:Int} {f g:Nat->Bool}
end
structure Hw (w:zA):Prop where
 wd:Wd w
 pw:Pw w
 sw:Spw w
theorem Hw.below {w w':zA} (h:Hw w) (hb:qL w w'):Hw w':=⟨h.wd.below hb,h.pw.below hb,h.sw.below hb⟩
end
end Go.Proofs.YtnjiiafnneillaaGreatDoor
