/- rational.opposite, number. -/
import Derived.Test.YtheinkfbiedidaaGreatDoorQ06
set_option maxRecDepth 100000
set_option maxHeartbeats 8000000
open Go renaming World → zA, Calls → zC
open Go.Lib renaming decDigits → zD, itoa → zE
open Go.Proofs.Tryz renaming prog → zF
open Go.World renaming alloc_heap_new → zG, size_alloc → zH
open Go.IntWalk renaming i64_in → zI
open Go.RowKit.Below renaming refl → zM
open Nat renaming le_refl → zN, le_trans → zO
namespace Go.Proofs.YtheinkfbiedidaaGreatDoor
open Go.RowKit Go.Shelf Lib Str Limb
attribute [local go_sem] Oper.semAt_some
theorem zww (a:List UInt8):Value.string ((⟨#[45]⟩:ByteArray)++(⟨a.toArray⟩:ByteArray))=St (45::a):=by
 congr 1
theorem zk3 (x:Int) (hx:digs x<=800000) (w:zA):
 qJ 116 #[St (zE x)] w (St (zE (-x))):=by
 obtain⟨s,hs⟩:∃s:ByteArray,s=⟨(zE x).toArray⟩:=⟨_,rfl⟩;obtain⟨own,hown⟩:∃s:ByteArray,s=⟨(zD x.natAbs).toArray⟩:=⟨_,rfl⟩;have hcp:∀W:zA,zC zF 166 #[.string s,.string ⟨#[45]⟩] W λe w'=>e=.returned (.tuple #[.string own,.bool (decide (x<0))])/\w'=W:=by
  intro W;have:=Tryz.strings_CutPrefix s ⟨#[45]⟩ W;rw[show s.data.toList=zE x from by rw[hs],show(⟨#[45]⟩:ByteArray).data.toList=[45] from rfl,zbi,zdx] at this;rw[hown];exact this
 have z:s.size<=800001:=by
  rw[hs];show(zE x).toArray.size<=_;have:=za7 x;simp;omega
 have HCP:=hid hcp;rw[show St (zE x)=.string s from by rw[hs]];rcases Int.lt_trichotomy x 0 with hn|h0|hp
 ·have ho:St (zE (-x))=.string own:=by rw[hown,show-x=((x.natAbs:Nat):Int) from by omega,Str.zad]
  have ht:(s.toList==[48])=false:=by
   rw[beq_eq_false_iff_ne,zfo hs];intro e;have:=zdo (e.trans zb9.symm);omega
  rw[ho];rw[decide_eq_true hn] at hcp;have HCP:=hid hcp;clear ho hs hown hcp hn hx;go_enter Tryz.func116,Tryz.ntmps116;go_wp2_with fail;refine(HCP.out _).mono ?_;rintro e w1 ⟨rfl,rfl⟩;go_wp2_with fail;go_ret;exact⟨rfl,zM _ _⟩
 ·subst h0
  have ht:(s.toList==[48])=true:=by rw[zfo hs,zb9];rfl
  rw[show-(0:Int)=0 from rfl,show St (zE 0)=.string s from by rw[hs]];clear hs hown hcp hx;go_enter Tryz.func116,Tryz.ntmps116;go_wp2_with fail;go_ret;exact⟨rfl,zM _ _⟩
 ·have ho:St (zE (-x))=.string ((⟨#[45]⟩:ByteArray)++s):=by
   rw[hs,zww,show x=((x.natAbs:Nat):Int) from by omega,Str.zga _ (by omega),Str.zad]
  have ht:(s.toList==[48])=false:=by
   rw[beq_eq_false_iff_ne,zfo hs];intro e;have:=zdo (e.trans zb9.symm);omega
  rw[ho];rw[decide_eq_false (by omega)] at hcp;have HCP:=hid hcp;clear ho hs hown hcp hp hx;go_enter Tryz.func116,Tryz.ntmps116;go_wp2_with fail;refine(HCP.out _).mono ?_;rintro e w1 ⟨rfl,rfl⟩;go_wp2_with fail;go_ret;exact⟨rfl,zM _ _⟩
theorem zsy (a b sg:ByteArray) (hp:∀W:zA,zC zF 96 #[.string b,.string ⟨#[45]⟩] W λe w'=>e=.returned (.bool false)/\w'=W)
 (gc:qK 117 #[.string a,.string b] (.tuple #[.string sg,.int .i64 0]))
 (g1:(sg.toList==[49])=true)
 (d1:(b.toList==[49])=true)
 (w:zA) (hw:Wd w):
 qJ 76 #[.string a,.string b] w (.tuple #[.string a,.int .i64 0]):=by
 have HP:=hid hp;have GC:=hid gc;have HW:=hid hw;clear hp gc hw;have hB0:=zM w.heap.size w;go_enter Tryz.func76,Tryz.ntmps76;go_wp2_with fail;refine(HP.out _).mono ?_;rintro e w0 ⟨rfl,rfl⟩;go_wp2_with fail;refine(GC.out _ (HW.out.below hB0)).mono ?_;rintro e w1 ⟨rfl,hb1⟩;have hB1:=hB0.trans (hb1.mono hB0.size);clear hb1;go_wp2_with fail;go_ret2;exact⟨rfl,hB1⟩
theorem zsz (a b sg:ByteArray) (hp:∀W:zA,zC zF 96 #[.string b,.string ⟨#[45]⟩] W λe w'=>e=.returned (.bool false)/\w'=W)
 (gc:qK 117 #[.string a,.string b] (.tuple #[.string sg,.int .i64 0]))
 (g1:(sg.toList==[49])=true)
 (d1:(b.toList==[49])=false) (z1:a.size<=400) (z2:b.size<=400)
 (w:zA) (hw:Wd w):
 qJ 76 #[.string a,.string b] w (.tuple #[.string (a++⟨#[47]⟩++b),.int .i64 0]):=by
 have HP:=hid hp;have GC:=hid gc;have HW:=hid hw;clear hp gc hw;have hB0:=zM w.heap.size w;go_enter Tryz.func76,Tryz.ntmps76;go_wp2_with fail;refine(HP.out _).mono ?_;rintro e w0 ⟨rfl,rfl⟩;go_wp2_with fail;refine(GC.out _ (HW.out.below hB0)).mono ?_;rintro e w1 ⟨rfl,hb1⟩;have hB1:=hB0.trans (hb1.mono hB0.size);clear hb1;go_wp2_with fail;go_ret2;exact⟨rfl,hB1⟩
theorem zs0 (a b sg sqn sqd:ByteArray) (hp:∀W:zA,zC zF 96 #[.string b,.string ⟨#[45]⟩] W λe w'=>e=.returned (.bool false)/\w'=W)
 (gc:qK 117 #[.string a,.string b] (.tuple #[.string sg,.int .i64 0]))
 (g1:(sg.toList==[49])=false)
 (dvn:qK 118 #[.string a,.string sg] (.tuple #[.string sqn,St [48],.int .i64 0]))
 (dvd:qK 118 #[.string b,.string sg] (.tuple #[.string sqd,St [48],.int .i64 0]))
 (d1:(sqd.toList==[49])=true)
 (w:zA) (hw:Wd w):
 qJ 76 #[.string a,.string b] w (.tuple #[.string sqn,.int .i64 0]):=by
 have HP:=hid hp;have GC:=hid gc;have HW:=hid hw;have DVN:=hid dvn;have DVD:=hid dvd;clear hp gc dvn dvd hw;have hB0:=zM w.heap.size w;go_enter Tryz.func76,Tryz.ntmps76;go_wp2_with fail;refine(HP.out _).mono ?_;rintro e w0 ⟨rfl,rfl⟩;go_wp2_with fail;refine(GC.out _ (HW.out.below hB0)).mono ?_;rintro e w1 ⟨rfl,hb1⟩;have hB1:=hB0.trans (hb1.mono hB0.size);clear hb1;go_wp2_with fail;refine(DVN.out _ (HW.out.below hB1)).mono ?_;rintro e w2 ⟨rfl,hb2⟩;have hB2:=hB1.trans (hb2.mono hB1.size);clear hb2;go_wp2_with fail;refine(DVD.out _ (HW.out.below hB2)).mono ?_;rintro e w3 ⟨rfl,hb3⟩;have hB3:=hB2.trans (hb3.mono hB2.size);clear hb3;go_wp2_with fail;go_ret2;exact⟨rfl,hB3⟩
theorem zs1 (a b sg sqn sqd:ByteArray) (hp:∀W:zA,zC zF 96 #[.string b,.string ⟨#[45]⟩] W λe w'=>e=.returned (.bool false)/\w'=W)
 (gc:qK 117 #[.string a,.string b] (.tuple #[.string sg,.int .i64 0]))
 (g1:(sg.toList==[49])=false)
 (dvn:qK 118 #[.string a,.string sg] (.tuple #[.string sqn,St [48],.int .i64 0]))
 (dvd:qK 118 #[.string b,.string sg] (.tuple #[.string sqd,St [48],.int .i64 0]))
 (d1:(sqd.toList==[49])=false) (z1:sqn.size<=400) (z2:sqd.size<=400)
 (w:zA) (hw:Wd w):
 qJ 76 #[.string a,.string b] w (.tuple #[.string (sqn++⟨#[47]⟩++sqd),.int .i64 0]):=by
 have HP:=hid hp;have GC:=hid gc;have HW:=hid hw;have DVN:=hid dvn;have DVD:=hid dvd;clear hp gc dvn dvd hw;have hB0:=zM w.heap.size w;go_enter Tryz.func76,Tryz.ntmps76;go_wp2_with fail;refine(HP.out _).mono ?_;rintro e w0 ⟨rfl,rfl⟩;go_wp2_with fail;refine(GC.out _ (HW.out.below hB0)).mono ?_;rintro e w1 ⟨rfl,hb1⟩;have hB1:=hB0.trans (hb1.mono hB0.size);clear hb1;go_wp2_with fail;refine(DVN.out _ (HW.out.below hB1)).mono ?_;rintro e w2 ⟨rfl,hb2⟩;have hB2:=hB1.trans (hb2.mono hB1.size);clear hb2;go_wp2_with fail;refine(DVD.out _ (HW.out.below hB2)).mono ?_;rintro e w3 ⟨rfl,hb3⟩;have hB3:=hB2.trans (hb3.mono hB2.size);clear hb3;go_wp2_with fail;go_ret2;exact⟨rfl,hB3⟩
theorem zs2 (a b sx sy sg:ByteArray) (hp:∀W:zA,zC zF 96 #[.string b,.string ⟨#[45]⟩] W λe w'=>e=.returned (.bool true)/\w'=W)
 (opx:qK 116 #[.string a] (.string sx))
 (opy:qK 116 #[.string b] (.string sy))
 (gc:qK 117 #[.string sx,.string sy] (.tuple #[.string sg,.int .i64 0]))
 (g1:(sg.toList==[49])=true)
 (d1:(sy.toList==[49])=true)
 (w:zA) (hw:Wd w):
 qJ 76 #[.string a,.string b] w (.tuple #[.string sx,.int .i64 0]):=by
 have HP:=hid hp;have GC:=hid gc;have HW:=hid hw;have OPX:=hid opx;have OPY:=hid opy;clear hp gc opx opy hw;have hB0:=zM w.heap.size w;go_enter Tryz.func76,Tryz.ntmps76;go_wp2_with fail;refine(HP.out _).mono ?_;rintro e w0 ⟨rfl,rfl⟩;go_wp2_with fail;refine(OPX.out _ (HW.out.below hB0)).mono ?_;rintro e w1 ⟨rfl,hb1⟩;have hB1:=hB0.trans (hb1.mono hB0.size);clear hb1;go_wp2_with fail;refine(OPY.out _ (HW.out.below hB1)).mono ?_;rintro e w2 ⟨rfl,hb2⟩;have hB2:=hB1.trans (hb2.mono hB1.size);clear hb2;go_wp2_with fail;refine(GC.out _ (HW.out.below hB2)).mono ?_;rintro e w3 ⟨rfl,hb3⟩;have hB3:=hB2.trans (hb3.mono hB2.size);clear hb3;go_wp2_with fail;go_ret2;exact⟨rfl,hB3⟩
theorem zs3 (a b sx sy sg:ByteArray) (hp:∀W:zA,zC zF 96 #[.string b,.string ⟨#[45]⟩] W λe w'=>e=.returned (.bool true)/\w'=W)
 (opx:qK 116 #[.string a] (.string sx))
 (opy:qK 116 #[.string b] (.string sy))
 (gc:qK 117 #[.string sx,.string sy] (.tuple #[.string sg,.int .i64 0]))
 (g1:(sg.toList==[49])=true)
 (d1:(sy.toList==[49])=false) (z1:sx.size<=400) (z2:sy.size<=400)
 (w:zA) (hw:Wd w):
 qJ 76 #[.string a,.string b] w (.tuple #[.string (sx++⟨#[47]⟩++sy),.int .i64 0]):=by
 have HP:=hid hp;have GC:=hid gc;have HW:=hid hw;have OPX:=hid opx;have OPY:=hid opy;clear hp gc opx opy hw;have hB0:=zM w.heap.size w;go_enter Tryz.func76,Tryz.ntmps76;go_wp2_with fail;refine(HP.out _).mono ?_;rintro e w0 ⟨rfl,rfl⟩;go_wp2_with fail;refine(OPX.out _ (HW.out.below hB0)).mono ?_;rintro e w1 ⟨rfl,hb1⟩;have hB1:=hB0.trans (hb1.mono hB0.size);clear hb1;go_wp2_with fail;refine(OPY.out _ (HW.out.below hB1)).mono ?_;rintro e w2 ⟨rfl,hb2⟩;have hB2:=hB1.trans (hb2.mono hB1.size);clear hb2;go_wp2_with fail;refine(GC.out _ (HW.out.below hB2)).mono ?_;rintro e w3 ⟨rfl,hb3⟩;have hB3:=hB2.trans (hb3.mono hB2.size);clear hb3;go_wp2_with fail;go_ret2;exact⟨rfl,hB3⟩
theorem zs4 (a b sx sy sg sqn sqd:ByteArray) (hp:∀W:zA,zC zF 96 #[.string b,.string ⟨#[45]⟩] W λe w'=>e=.returned (.bool true)/\w'=W)
 (opx:qK 116 #[.string a] (.string sx))
 (opy:qK 116 #[.string b] (.string sy))
 (gc:qK 117 #[.string sx,.string sy] (.tuple #[.string sg,.int .i64 0]))
 (g1:(sg.toList==[49])=false)
 (dvn:qK 118 #[.string sx,.string sg] (.tuple #[.string sqn,St [48],.int .i64 0]))
 (dvd:qK 118 #[.string sy,.string sg] (.tuple #[.string sqd,St [48],.int .i64 0]))
 (d1:(sqd.toList==[49])=true)
 (w:zA) (hw:Wd w):
 qJ 76 #[.string a,.string b] w (.tuple #[.string sqn,.int .i64 0]):=by
 have HP:=hid hp;have GC:=hid gc;have HW:=hid hw;have OPX:=hid opx;have OPY:=hid opy;have DVN:=hid dvn;have DVD:=hid dvd;clear hp gc opx opy dvn dvd hw;have hB0:=zM w.heap.size w;go_enter Tryz.func76,Tryz.ntmps76;go_wp2_with fail;refine(HP.out _).mono ?_;rintro e w0 ⟨rfl,rfl⟩;go_wp2_with fail;refine(OPX.out _ (HW.out.below hB0)).mono ?_;rintro e w1 ⟨rfl,hb1⟩;have hB1:=hB0.trans (hb1.mono hB0.size);clear hb1;go_wp2_with fail;refine(OPY.out _ (HW.out.below hB1)).mono ?_;rintro e w2 ⟨rfl,hb2⟩;have hB2:=hB1.trans (hb2.mono hB1.size);clear hb2;go_wp2_with fail;refine(GC.out _ (HW.out.below hB2)).mono ?_;rintro e w3 ⟨rfl,hb3⟩;have hB3:=hB2.trans (hb3.mono hB2.size);clear hb3;go_wp2_with fail;refine(DVN.out _ (HW.out.below hB3)).mono ?_;rintro e w4 ⟨rfl,hb4⟩;have hB4:=hB3.trans (hb4.mono hB3.size);clear hb4;go_wp2_with fail;refine(DVD.out _ (HW.out.below hB4)).mono ?_;rintro e w5 ⟨rfl,hb5⟩;have hB5:=hB4.trans (hb5.mono hB4.size);clear hb5;go_wp2_with fail;go_ret2;exact⟨rfl,hB5⟩
theorem zs5 (a b sx sy sg sqn sqd:ByteArray) (hp:∀W:zA,zC zF 96 #[.string b,.string ⟨#[45]⟩] W λe w'=>e=.returned (.bool true)/\w'=W)
 (opx:qK 116 #[.string a] (.string sx))
 (opy:qK 116 #[.string b] (.string sy))
 (gc:qK 117 #[.string sx,.string sy] (.tuple #[.string sg,.int .i64 0]))
 (g1:(sg.toList==[49])=false)
 (dvn:qK 118 #[.string sx,.string sg] (.tuple #[.string sqn,St [48],.int .i64 0]))
 (dvd:qK 118 #[.string sy,.string sg] (.tuple #[.string sqd,St [48],.int .i64 0]))
 (d1:(sqd.toList==[49])=false) (z1:sqn.size<=400) (z2:sqd.size<=400)
 (w:zA) (hw:Wd w):
 qJ 76 #[.string a,.string b] w (.tuple #[.string (sqn++⟨#[47]⟩++sqd),.int .i64 0]):=by
 have HP:=hid hp;have GC:=hid gc;have HW:=hid hw;have OPX:=hid opx;have OPY:=hid opy;have DVN:=hid dvn;have DVD:=hid dvd;clear hp gc opx opy dvn dvd hw;have hB0:=zM w.heap.size w;go_enter Tryz.func76,Tryz.ntmps76;go_wp2_with fail;refine(HP.out _).mono ?_;rintro e w0 ⟨rfl,rfl⟩;go_wp2_with fail;refine(OPX.out _ (HW.out.below hB0)).mono ?_;rintro e w1 ⟨rfl,hb1⟩;have hB1:=hB0.trans (hb1.mono hB0.size);clear hb1;go_wp2_with fail;refine(OPY.out _ (HW.out.below hB1)).mono ?_;rintro e w2 ⟨rfl,hb2⟩;have hB2:=hB1.trans (hb2.mono hB1.size);clear hb2;go_wp2_with fail;refine(GC.out _ (HW.out.below hB2)).mono ?_;rintro e w3 ⟨rfl,hb3⟩;have hB3:=hB2.trans (hb3.mono hB2.size);clear hb3;go_wp2_with fail;refine(DVN.out _ (HW.out.below hB3)).mono ?_;rintro e w4 ⟨rfl,hb4⟩;have hB4:=hB3.trans (hb4.mono hB3.size);clear hb4;go_wp2_with fail;refine(DVD.out _ (HW.out.below hB4)).mono ?_;rintro e w5 ⟨rfl,hb5⟩;have hB5:=hB4.trans (hb5.mono hB4.size);clear hb5;go_wp2_with fail;go_ret2;exact⟨rfl,hB5⟩
theorem zgf {l:List UInt8} {s:ByteArray} (h:s=⟨l.toArray⟩):St l=.string s:=by rw[h]
theorem zh2 {n:Int} {s:ByteArray} (hs:s=⟨(zE n).toArray⟩) (b:Bool) (h:(n=1)↔b=true):(s.toList==[49])=b:=by
 rw[zfo hs]
 cases b with
 |true=>rw[beq_iff_eq,h.2 rfl,zmn]
 |false=>rw[beq_eq_false_iff_ne];intro e;exact absurd (h.1 (zdo (e.trans zmn.symm))) (by simp)
theorem zj2 {x y:Int} (h:x.natAbs<=y.natAbs):digs x<=digs y:=by
 unfold digs;have hy:=(zaf y.natAbs (digs y) (zbn y)).1 (zN _);exact(zaf x.natAbs (digs y) (zbn y)).2 (Nat.lt_of_le_of_lt h hy)
theorem zfa (x y:Int) (hy:y≠0) (hx3:digs x<=300) (hy3:digs y<=300) (w:zA) (hw:Wd w):
 qJ 76 #[St (zE x),St (zE y)] w (.tuple #[St (numS (Rat.divInt x y)),.int .i64 0]):=by
 have key:∀X Y:Int,0<Y->Rat.divInt X Y=Rat.divInt x y->digs X<=300->digs Y<=300->(∀(sx sy:ByteArray) (_:sx=⟨(zE X).toArray⟩) (_:sy=⟨(zE Y).toArray⟩) (sg sqn sqd:ByteArray)
  (_:qK 117 #[.string sx,.string sy] (.tuple #[.string sg,.int .i64 0]))
  (res:ByteArray) (_:St (numS (Rat.divInt x y))=.string res)
  (_:((sg.toList==[49])=true/\(sy.toList==[49])=true/\res=sx)\/((sg.toList==[49])=true/\(sy.toList==[49])=false/\sx.size<=400/\sy.size<=400/\res=sx++⟨#[47]⟩++sy)\/
    ((sg.toList==[49])=false/\(qK 118 #[.string sx,.string sg] (.tuple #[.string sqn,St [48],.int .i64 0]))/\
      (qK 118 #[.string sy,.string sg] (.tuple #[.string sqd,St [48],.int .i64 0]))/\
      (((sqd.toList==[49])=true/\res=sqn)\/((sqd.toList==[49])=false/\sqn.size<=400/\sqd.size<=400/\res=sqn++⟨#[47]⟩++sqd)))),
  qJ 76 #[St (zE x),St (zE y)] w (.tuple #[.string res,.int .i64 0]))->
  qJ 76 #[St (zE x),St (zE y)] w (.tuple #[St (numS (Rat.divInt x y)),.int .i64 0]):=by
  intro X Y hY hXY hX3 hY3 H;obtain⟨g,hg⟩:∃g:Nat,g=Int.gcd X Y:=⟨_,rfl⟩;have hg0:0<g:=by rw[hg];exact Int.gcd_pos_of_ne_zero_right _ (by omega)
  have hgX:(g:Int)∣X:=by rw[hg];exact Int.gcd_dvd_left _ _
  have hgY:(g:Int)∣Y:=by rw[hg];exact Int.gcd_dvd_right _ _
  have hm:=zif X Y hY;rw[hXY,<-hg] at hm;have hXe:X=X/(g:Int)*g:=(Int.ediv_mul_cancel hgX).symm;have hYe:Y=Y/(g:Int)*g:=(Int.ediv_mul_cancel hgY).symm;have hqn3:digs (X/(g:Int))<=300:=zO (zj2 (by rw[Int.natAbs_ediv_of_dvd hgX];exact Nat.div_le_self _ _)) hX3;have hqd3:digs (Y/(g:Int))<=300:=zO (zj2 (by rw[Int.natAbs_ediv_of_dvd hgY];exact Nat.div_le_self _ _)) hY3;have hg3:digs (g:Int)<=300:=zO (zj2 (by have:=Int.le_of_dvd hY hgY;omega)) hY3;have hsz:∀(z:Int) (s:ByteArray),s=⟨(zE z).toArray⟩->digs z<=300->s.size<=400:=by
   intro z s hs hz;have h1:=za7 z;have:s.size=(zE z).length:=by rw[hs];exact List.size_toArray
   omega
  obtain⟨sx,hsx⟩:∃s:ByteArray,s=⟨(zE X).toArray⟩:=⟨_,rfl⟩;obtain⟨sy,hsy⟩:∃s:ByteArray,s=⟨(zE Y).toArray⟩:=⟨_,rfl⟩;obtain⟨sg,hsg⟩:∃s:ByteArray,s=⟨(zE (g:Int)).toArray⟩:=⟨_,rfl⟩;obtain⟨sqn,hsqn⟩:∃s:ByteArray,s=⟨(zE (X/(g:Int))).toArray⟩:=⟨_,rfl⟩;obtain⟨sqd,hsqd⟩:∃s:ByteArray,s=⟨(zE (Y/(g:Int))).toArray⟩:=⟨_,rfl⟩;have hgc:qK 117 #[.string sx,.string sy] (.tuple #[.string sg,.int .i64 0]):=by
   intro W hW;have:=ztw X Y hX3 hY3 W hW;rw[hsx,hsy,hsg,hg];exact this
  have hdn:qK 118 #[.string sx,.string sg] (.tuple #[.string sqn,St [48],.int .i64 0]):=by
   intro W hW;have:=zky X g _ hXe (by omega) hX3 hg3 W hW;rw[hsx,hsg,hsqn];exact this
  have hdd:qK 118 #[.string sy,.string sg] (.tuple #[.string sqd,St [48],.int .i64 0]):=by
   intro W hW;have:=zky Y g _ hYe (by omega) hY3 hg3 W hW;rw[hsy,hsg,hsqd];exact this
  have hres:∃res:ByteArray,St (numS (Rat.divInt x y))=.string res:=⟨_,rfl⟩;obtain⟨res,hr⟩:=hres;rw[hr];refine H sx sy hsx hsy sg sqn sqd hgc res hr ?_;have hsg1:=λb h=>zh2 hsg b h;have hres':∀r:ByteArray,Value.string r=St (numS (Rat.divInt x y))->res=r:=λr h=>by rw[hr] at h;injection h with h;exact h.symm
  by_cases hg1:g=1
  ·have eX:X/(g:Int)=X:=by rw[hg1];exact Int.ediv_one X
   have eY:Y/(g:Int)=Y:=by rw[hg1];exact Int.ediv_one Y
   rw[eX,eY] at hm;have h1:=hsg1 true (by simp[hg1]);by_cases hY1:Y=1
   ·refine .inl ⟨h1,zh2 hsy true (by simp[hY1]),hres' _ ?_⟩
    rw[hm,if_pos hY1,List.append_nil,hsx]
   ·refine .inr (.inl ⟨h1,zh2 hsy false (by simp[hY1]),hsz _ _ hsx hX3,hsz _ _ hsy hY3,hres' _ ?_⟩)
    rw[hm,if_neg hY1,hsx,hsy,zik]
  ·refine .inr (.inr ⟨hsg1 false (by simp;omega),hdn,hdd,?_⟩)
   by_cases hY1:Y/(g:Int)=1
   ·refine .inl ⟨zh2 hsqd true (by simp[hY1]),hres' _ ?_⟩
    rw[hm,if_pos hY1,List.append_nil,hsqn]
   ·refine .inr ⟨zh2 hsqd false (by simp[hY1]),hsz _ _ hsqn hqn3,hsz _ _ hsqd hqd3,hres' _ ?_⟩
    rw[hm,if_neg hY1,hsqn,hsqd,zik]
 have hhp:∀(b:ByteArray) (_:b=⟨(zE y).toArray⟩) (W:zA),zC zF 96 #[.string b,.string ⟨#[45]⟩] W λe w'=>e=.returned (.bool (decide (y<0)))/\w'=W:=by
  intro b hb W;have:=Tryz.strings_HasPrefix b ⟨#[45]⟩ W;rw[show b.data.toList=zE y from by rw[hb],show(⟨#[45]⟩:ByteArray).data.toList=[45] from rfl,zdx] at this;exact this
 rcases Int.lt_or_lt_of_ne hy with hn|hp
 ·refine key (-x) (-y) (by omega) ?_ (by unfold digs at*;rw[Int.natAbs_neg];exact hx3) (by unfold digs at*;rw[Int.natAbs_neg];exact hy3) ?_
  ·rw[zjd x y hn,show-y=((y.natAbs:Nat):Int) from by omega]
  intro sx sy hsx hsy sg sqn sqd gc res hr h;obtain⟨a,ha⟩:∃s:ByteArray,s=⟨(zE x).toArray⟩:=⟨_,rfl⟩;obtain⟨b,hb⟩:∃s:ByteArray,s=⟨(zE y).toArray⟩:=⟨_,rfl⟩;rw[zgf ha,zgf hb];have hp:=hhp b hb;rw[decide_eq_true hn] at hp;have opx:qK 116 #[.string a] (.string sx):=by
   intro W _;rw[ha,hsx];exact zk3 x (by omega) W
  have opy:qK 116 #[.string b] (.string sy):=by
   intro W _;rw[hb,hsy];exact zk3 y (by omega) W
  rcases h with⟨h1,h2,rfl⟩|⟨h1,h2,h3,h4,rfl⟩|⟨h1,h2,h3,⟨h4,rfl⟩|⟨h4,h5,h6,rfl⟩⟩
  ·exact zs2 a b _ sy sg hp opx opy gc h1 h2 w hw
  ·exact zs3 a b sx sy sg hp opx opy gc h1 h2 h3 h4 w hw
  ·exact zs4 a b sx sy sg _ sqd hp opx opy gc h1 h2 h3 h4 w hw
  ·exact zs5 a b sx sy sg sqn sqd hp opx opy gc h1 h2 h3 h4 h5 h6 w hw
 ·refine key x y hp rfl hx3 hy3 ?_
  intro sx sy hsx hsy sg sqn sqd gc res hr h;rw[zgf hsx,zgf hsy];have hp':=hhp sy hsy;rw[decide_eq_false (by omega)] at hp';rcases h with⟨h1,h2,rfl⟩|⟨h1,h2,h3,h4,rfl⟩|⟨h1,h2,h3,⟨h4,rfl⟩|⟨h4,h5,h6,rfl⟩⟩
  ·exact zsy _ sy sg hp' gc h1 h2 w hw
  ·exact zsz sx sy sg hp' gc h1 h2 h3 h4 w hw
  ·exact zs0 sx sy sg _ sqd hp' gc h1 h2 h3 h4 w hw
  ·exact zs1 sx sy sg sqn sqd hp' gc h1 h2 h3 h4 h5 h6 w hw
theorem zbs {x y:Int} (hx: -100000000<x/\x<100000000) (hy: -100000000<y/\y<100000000): -10000000000000000<x*y/\x*y<10000000000000000:=by
 have h1:x.natAbs<=99999999:=by omega
 have h2:y.natAbs<=99999999:=by omega
 have h3:(x*y).natAbs<=99999999*99999999:=by rw[Int.natAbs_mul];exact Nat.mul_le_mul h1 h2
 omega
theorem nadd (n1 d1 n2 d2:Int) (a1: -100000000<n1/\n1<100000000) (b1: -100000000<d1/\d1<100000000) (a2: -100000000<n2/\n2<100000000) (b2: -100000000<d2/\d2<100000000) (w:zA):
 qJ 156 #[.agg #[.int .i64 n1,.int .i64 d1],.agg #[.int .i64 n2,.int .i64 d2]] w (.agg #[.int .i64 (n1*d2+n2*d1),.int .i64 (d1*d2)]):=by
 have p0:=zbs a1 b2;have v0:IntKind.i64.wrap (n1*d2)=n1*d2:=zI _ (by omega);have p1:=zbs a2 b1;have v1:IntKind.i64.wrap (n2*d1)=n2*d1:=zI _ (by omega);have p2:=zbs b1 b2;have v2:IntKind.i64.wrap (d1*d2)=d1*d2:=zI _ (by omega);have v3:IntKind.i64.wrap (n1*d2+n2*d1)=n1*d2+n2*d1:=zI _ (by omega);clear p0 p1 p2;clear a1 b1 a2 b2;go_enter Tryz.func156,Tryz.ntmps156;go_wp2_with fail;refine bodyPost_ret (v:=.agg #[.int .i64 (n1*d2+n2*d1),.int .i64 (d1*d2)]) (by simp[results,Tryz.results156,go_sem]) rfl ⟨rfl,?_⟩
 repeat(first|exact zM _ _|refine Below.alloc ?_ (by simp<;>omega) _|refine zao ?_ _|refine Below.setCell ?_ (by simp<;>omega) _)
theorem nsub (n1 d1 n2 d2:Int) (a1: -100000000<n1/\n1<100000000) (b1: -100000000<d1/\d1<100000000) (a2: -100000000<n2/\n2<100000000) (b2: -100000000<d2/\d2<100000000) (w:zA):
 qJ 153 #[.agg #[.int .i64 n1,.int .i64 d1],.agg #[.int .i64 n2,.int .i64 d2]] w (.agg #[.int .i64 (n1*d2-n2*d1),.int .i64 (d1*d2)]):=by
 have p0:=zbs a1 b2;have v0:IntKind.i64.wrap (n1*d2)=n1*d2:=zI _ (by omega);have p1:=zbs a2 b1;have v1:IntKind.i64.wrap (n2*d1)=n2*d1:=zI _ (by omega);have p2:=zbs b1 b2;have v2:IntKind.i64.wrap (d1*d2)=d1*d2:=zI _ (by omega);have v3:IntKind.i64.wrap (n1*d2-n2*d1)=n1*d2-n2*d1:=zI _ (by omega);clear p0 p1 p2;clear a1 b1 a2 b2;go_enter Tryz.func153,Tryz.ntmps153;go_wp2_with fail;refine bodyPost_ret (v:=.agg #[.int .i64 (n1*d2-n2*d1),.int .i64 (d1*d2)]) (by simp[results,Tryz.results153,go_sem]) rfl ⟨rfl,?_⟩
 repeat(first|exact zM _ _|refine Below.alloc ?_ (by simp<;>omega) _|refine zao ?_ _|refine Below.setCell ?_ (by simp<;>omega) _)
theorem nmul (n1 d1 n2 d2:Int) (a1: -100000000<n1/\n1<100000000) (b1: -100000000<d1/\d1<100000000) (a2: -100000000<n2/\n2<100000000) (b2: -100000000<d2/\d2<100000000) (w:zA):
 qJ 119 #[.agg #[.int .i64 n1,.int .i64 d1],.agg #[.int .i64 n2,.int .i64 d2]] w (.agg #[.int .i64 (n1*n2),.int .i64 (d1*d2)]):=by
 have p0:=zbs a1 a2;have v0:IntKind.i64.wrap (n1*n2)=n1*n2:=zI _ (by omega);have p1:=zbs b1 b2;have v1:IntKind.i64.wrap (d1*d2)=d1*d2:=zI _ (by omega);clear p0 p1;clear a1 b1 a2 b2;go_enter Tryz.func119,Tryz.ntmps119;go_wp2_with fail;refine bodyPost_ret (v:=.agg #[.int .i64 (n1*n2),.int .i64 (d1*d2)]) (by simp[results,Tryz.results119,go_sem]) rfl ⟨rfl,?_⟩
 repeat(first|exact zM _ _|refine Below.alloc ?_ (by simp<;>omega) _|refine zao ?_ _|refine Below.setCell ?_ (by simp<;>omega) _)
theorem ndiv (n1 d1 n2 d2:Int) (a1: -100000000<n1/\n1<100000000) (b1: -100000000<d1/\d1<100000000) (a2: -100000000<n2/\n2<100000000) (b2: -100000000<d2/\d2<100000000) (w:zA):
 qJ 72 #[.agg #[.int .i64 n1,.int .i64 d1],.agg #[.int .i64 n2,.int .i64 d2]] w (.agg #[.int .i64 (n1*d2),.int .i64 (d1*n2)]):=by
 have p0:=zbs a1 b2;have v0:IntKind.i64.wrap (n1*d2)=n1*d2:=zI _ (by omega);have p1:=zbs b1 a2;have v1:IntKind.i64.wrap (d1*n2)=d1*n2:=zI _ (by omega);clear p0 p1;clear a1 b1 a2 b2;go_enter Tryz.func72,Tryz.ntmps72;go_wp2_with fail;refine bodyPost_ret (v:=.agg #[.int .i64 (n1*d2),.int .i64 (d1*n2)]) (by simp[results,Tryz.results72,go_sem]) rfl ⟨rfl,?_⟩
 repeat(first|exact zM _ _|refine Below.alloc ?_ (by simp<;>omega) _|refine zao ?_ _|refine Below.setCell ?_ (by simp<;>omega) _)
theorem zhc (n1 n2:Int) (d1 d2:Nat) (h1:digs n1<=300) (h2:digs n2<=300) (h3:(zD d1).length<=300) (h4:(zD d2).length<=300) (k1:digs (n1*d2)<=300) (w:zA) (hw:Wd w):
 zC zF 75 #[.agg #[St (zE n1),St (zD d1)],.agg #[St (zE n2),St (zD d2)]] w λe w'=>
  e=.returned (.tuple #[St (zE (n1*d2)),St (resL (n2*d1)),.int .i64 (resE (n2*d1))])/\Below w.heap.size w w':=by
 have m1:=λW hW=>zhk n1 d2 h1 (by unfold digs;rw[Int.natAbs_natCast];exact h4) W hW;have m2:=λW hW=>zhk n2 d1 h2 (by unfold digs;rw[Int.natAbs_natCast];exact h3) W hW;rw[zcf k1,zcg k1,Str.zad] at m1;rw[Str.zad] at m2;generalize zE n1=s1 at m1⊢;generalize zE n2=s2 at m2⊢;generalize zD d1=t1 at m2⊢;generalize zD d2=t2 at m1⊢;generalize zE (n1*d2)=u at m1⊢;generalize resL (n2*d1)=v at m2⊢;generalize resE (n2*d1)=x at m2⊢;have M1:=hid m1;have M2:=hid m2;have HW:=hid hw;clear m1 m2 hw h1 h2 h3 h4 k1;obtain⟨W3,hW3⟩:∃W3,W3=(w.alloc (.cells #[St s1,St t1] 121)).alloc (.cells #[St s2,St t2] 121):=⟨_,rfl⟩;have hB0:qL w W3:=by rw[hW3];exact((zM _ w).alloc (zN _) _).alloc (by simp) _
 have z0:W3.heap.size=w.heap.size+1+1:=by rw[hW3];simp
 have A3:W3.heap[w.heap.size]? =some (.cells #[St s1,St t1] 121 (0,0)):=by
  rw[hW3];exact(Below.heap_alloc _ _ _ (by simp only[zH];omega)).trans (zG w _)
 have B3:W3.heap[w.heap.size+1]? =some (.cells #[St s2,St t2] 121 (0,0)):=by
  have:=zG (w.alloc (.cells #[St s1,St t1] 121)) (.cells #[St s2,St t2] 121 (0,0));rw[zH] at this;rw[hW3];exact this
 have HW3:=hid hW3;clear hW3;go_enter Tryz.func75,Tryz.ntmps75;go_wp2_with fail;rw[<-HW3.out];refine(M1.out _ (HW.out.below hB0)).mono ?_;rintro e w4 ⟨rfl,hb4⟩;have hB4:=hB0.trans (hb4.mono hB0.size);have A4:w4.heap[w.heap.size]? =some (.cells #[St s1,St t1] 121 (0,0)):=(hb4.block _ (by omega)).trans A3;have B4:w4.heap[w.heap.size+1]? =some (.cells #[St s2,St t2] 121 (0,0)):=(hb4.block _ (by omega)).trans B3;have A41:w4.cell? ⟨w.heap.size,1,none⟩=some (St t1):=by simp[World.cell?,A4]
 have B40:w4.cell? ⟨w.heap.size+1,0,none⟩=some (St s2):=by simp[World.cell?,B4]
 clear hb4 A3 B3 z0;go_wp2_with fail;refine(M2.out _ (HW.out.below hB4)).mono ?_;rintro e w5 ⟨rfl,hb5⟩;have hB5:=hB4.trans (hb5.mono hB4.size);clear hb5 A4 B4 A41 B40;go_wp2_with fail;go_ret3;exact⟨rfl,hB5⟩
theorem zd9 (n:Nat):digs (n:Int)=(zD n).length:=by unfold digs;rw[Int.natAbs_natCast]
def zb1 (q:Rat):Value:=.agg #[St (zE q.num),St (zD q.den)]
theorem zt7 (a b:Rat) (ha:okQ a) (hb:okQ b) (h1:digs (a.num*b.num)<=300) (h2:(zD (a.den*b.den)).length<=300) (w:zA) (hw:Wd w):
 qJ 120 #[zb1 a,zb1 b] w (.tuple #[St (numS (a*b)),.int .i64 0]):=by
 have m1:=λW hW=>zhk a.num b.num ha.1 hb.1 W hW;have m2:=λW hW=>zhk (a.den:Int) (b.den:Int) (by rw[zd9];exact ha.2) (by rw[zd9];exact hb.2) W hW;rw[<-Int.natCast_mul,Str.zad,Str.zad] at m2;have h2':digs ((a.den*b.den:Nat):Int)<=300:=by rw[zd9];exact h2
 rw[zcf h1,zcg h1] at m1;rw[zcf h2',zcg h2'] at m2;have hn:=λW hW=>zfa (a.num*b.num) ((a.den*b.den:Nat):Int) (by have:=Nat.mul_pos a.den_pos b.den_pos;omega) h1 h2' W hW;rw[<-zf1] at hn;unfold zb1;generalize zE a.num=s1 at m1⊢;generalize zE b.num=s2 at m1⊢;generalize zD a.den=t1 at m2⊢;generalize zD b.den=t2 at m2⊢;generalize zE (a.num*b.num)=u at m1 hn;generalize zE ((a.den*b.den:Nat):Int)=v at m2 hn;generalize numS (a*b)=r at hn⊢;have M1:=hid m1;have M2:=hid m2;have HN:=hid hn;have HW:=hid hw;clear m1 m2 hn hw h1 h2 h2' ha hb;obtain⟨W3,hW3⟩:∃W3,W3=(w.alloc (.cells #[St s1,St t1] 121)).alloc (.cells #[St s2,St t2] 121):=⟨_,rfl⟩;have hB0:qL w W3:=by rw[hW3];exact((zM _ w).alloc (zN _) _).alloc (by simp) _
 have z0:W3.heap.size=w.heap.size+1+1:=by rw[hW3];simp
 have A3:W3.heap[w.heap.size]? =some (.cells #[St s1,St t1] 121 (0,0)):=by
  rw[hW3];exact(Below.heap_alloc _ _ _ (by simp only[zH];omega)).trans (zG w _)
 have B3:W3.heap[w.heap.size+1]? =some (.cells #[St s2,St t2] 121 (0,0)):=by
  have:=zG (w.alloc (.cells #[St s1,St t1] 121)) (.cells #[St s2,St t2] 121 (0,0));rw[zH] at this;rw[hW3];exact this
 have HW3:=hid hW3;clear hW3;go_enter Tryz.func120,Tryz.ntmps120;go_wp2_with fail;rw[<-HW3.out];refine(M1.out _ (HW.out.below hB0)).mono ?_;rintro e w4 ⟨rfl,hb4⟩;have hB4:=hB0.trans (hb4.mono hB0.size);have A4:w4.heap[w.heap.size]? =some (.cells #[St s1,St t1] 121 (0,0)):=(hb4.block _ (by omega)).trans A3;have B4:w4.heap[w.heap.size+1]? =some (.cells #[St s2,St t2] 121 (0,0)):=(hb4.block _ (by omega)).trans B3;have A41:w4.cell? ⟨w.heap.size,1,none⟩=some (St t1):=by simp[World.cell?,A4]
 have B41:w4.cell? ⟨w.heap.size+1,1,none⟩=some (St t2):=by simp[World.cell?,B4]
 clear hb4 A3 B3 z0;go_wp2_with fail;refine(M2.out _ (HW.out.below hB4)).mono ?_;rintro e w5 ⟨rfl,hb5⟩;have hB5:=hB4.trans (hb5.mono hB4.size);clear hb5 A4 B4 A41 B41;go_wp2_with fail;refine(HN.out _ (HW.out.below hB5)).mono ?_;rintro e w6 ⟨rfl,hb6⟩;have hB6:=hB5.trans (hb6.mono hB5.size);clear hb6;go_wp2_with fail;go_ret2;exact⟨rfl,hB6⟩
theorem z1o (a b:Rat) (hb0:b≠0) (ha:okQ a) (hb:okQ b) (h1:digs (a.num*b.den)<=300) (h2:digs (b.num*a.den)<=300) (w:zA) (hw:Wd w):
 qJ 74 #[zb1 a,zb1 b] w (.tuple #[St (numS (a/b)),.int .i64 0]):=by
 have m1:=λW hW=>zhc a.num b.num a.den b.den ha.1 hb.1 ha.2 hb.2 h1 W hW;rw[zcf h2,zcg h2] at m1;have hnz:b.num≠0:=λh=>hb0 (Rat.num_eq_zero.1 h);have hdz:b.num*(a.den:Int)≠0:=Int.mul_ne_zero hnz (by have:=a.den_pos;omega);have hn:=λW hW=>zfa (a.num*b.den) (b.num*a.den) hdz h1 h2 W hW;rw[Int.mul_comm b.num,<-zjx a b hb0,Int.mul_comm (a.den:Int)] at hn;have hz:((⟨(zE b.num).toArray⟩:ByteArray).toList==[48])=false:=by
  rw[beq_eq_false_iff_ne,ByteArray.toList_eq];intro e;exact hnz (zdo ((show zE b.num=[48] from by simpa using e).trans zb9.symm))
 unfold zb1;generalize zE a.num=s1 at m1⊢;generalize zE b.num=s2 at m1 hz⊢;generalize zD a.den=t1 at m1⊢;generalize zD b.den=t2 at m1⊢;generalize zE (a.num*b.den)=u at m1 hn;generalize zE (b.num*a.den)=v at m1 hn;generalize numS (a/b)=r at hn⊢;obtain⟨S2,hS2⟩:∃S2:ByteArray,S2=⟨s2.toArray⟩:=⟨_,rfl⟩;rw[show St s2=.string S2 from by rw[hS2]] at m1⊢;rw[<-hS2] at hz;have M1:=hid m1;have HN:=hid hn;have HW:=hid hw;clear m1 hn hw h1 h2 ha hb hS2 hnz hdz hb0;have hB0:qL w ((w.alloc (.cells #[St s1,St t1] 121)).alloc (.cells #[.string S2,St t2] 121)):=((zM _ w).alloc (zN _) _).alloc (by simp) _;go_enter Tryz.func74,Tryz.ntmps74;go_wp2_with fail;refine(M1.out _ (HW.out.below hB0)).mono ?_;rintro e w4 ⟨rfl,hb4⟩;have hB4:=hB0.trans (hb4.mono hB0.size);clear hb4;go_wp2_with fail;refine(HN.out _ (HW.out.below hB4)).mono ?_;rintro e w6 ⟨rfl,hb6⟩;have hB6:=hB4.trans (hb6.mono hB4.size);clear hb6;go_wp2_with fail;go_ret2;exact⟨rfl,hB6⟩
theorem zy8 (a b:Rat) (ha:okQ a) (hb:okQ b) (h1:digs (a.num*b.den)<=300) (h2:digs (b.num*a.den)<=300) (h3:digs (a.num*b.den+b.num*a.den)<=300) (h4:(zD (a.den*b.den)).length<=300)
 (c:Nat) (w:zA) (hc:w.cell? ⟨c,0,none⟩=some (.func (.func 128) #[] #[])) (hw:Wd w):
 qJ 214 #[zb1 a,zb1 b,.pointer (some ⟨c,0,none⟩)] w (.tuple #[St (numS (a+b)),.int .i64 0]):=by
 have m1:=λW hW=>zhc a.num b.num a.den b.den ha.1 hb.1 ha.2 hb.2 h1 W hW;rw[zcf h2,zcg h2] at m1;have m3:=λW hW=>z1c (a.num*b.den) (b.num*a.den) h1 h2 W hW;rw[zcf h3,zcg h3] at m3;have m2:=λW hW=>zhk (a.den:Int) (b.den:Int) (by rw[zd9];exact ha.2) (by rw[zd9];exact hb.2) W hW;rw[<-Int.natCast_mul,Str.zad,Str.zad] at m2;have h4':digs ((a.den*b.den:Nat):Int)<=300:=by rw[zd9];exact h4
 rw[zcf h4',zcg h4'] at m2;have hn:=λW hW=>zfa (a.num*b.den+b.num*a.den) ((a.den*b.den:Nat):Int) (by have:=Nat.mul_pos a.den_pos b.den_pos;omega) h3 h4' W hW;rw[<-zf0] at hn;unfold zb1;generalize zE a.num=s1 at m1⊢;generalize zE b.num=s2 at m1⊢;generalize zD a.den=t1 at m1 m2⊢;generalize zD b.den=t2 at m1 m2⊢;generalize zE (a.num*b.den+b.num*a.den)=u at m3 hn;generalize zE (a.num*b.den)=u1 at m1 m3;generalize zE (b.num*a.den)=u2 at m1 m3;generalize zE ((a.den*b.den:Nat):Int)=v at m2 hn;generalize numS (a+b)=r at hn⊢;have M1:=hid m1;have M2:=hid m2;have M3:=hid m3;have HN:=hid hn;have HW:=hid hw;clear m1 m2 m3 hn hw h1 h2 h3 h4 h4' ha hb;have zc:=zbe hc;dsimp only at zc;obtain⟨W3,hW3⟩:∃W3,W3=(w.alloc (.cells #[St s1,St t1] 121)).alloc (.cells #[St s2,St t2] 121):=⟨_,rfl⟩;have hB0:qL w W3:=by rw[hW3];exact((zM _ w).alloc (zN _) _).alloc (by simp) _
 have z0:W3.heap.size=w.heap.size+1+1:=by rw[hW3];simp
 have A3:W3.heap[w.heap.size]? =some (.cells #[St s1,St t1] 121 (0,0)):=by
  rw[hW3];exact(Below.heap_alloc _ _ _ (by simp only[zH];omega)).trans (zG w _)
 have B3:W3.heap[w.heap.size+1]? =some (.cells #[St s2,St t2] 121 (0,0)):=by
  have:=zG (w.alloc (.cells #[St s1,St t1] 121)) (.cells #[St s2,St t2] 121 (0,0));rw[zH] at this;rw[hW3];exact this
 have HW3:=hid hW3;clear hW3;go_enter Tryz.func214,Tryz.ntmps214;go_wp2_with fail;rw[<-HW3.out];refine(M1.out _ (HW.out.below hB0)).mono ?_;rintro e w4 ⟨rfl,hb4⟩;have hB4:=hB0.trans (hb4.mono hB0.size);have A4:w4.heap[w.heap.size]? =some (.cells #[St s1,St t1] 121 (0,0)):=(hb4.block _ (by omega)).trans A3;have B4:w4.heap[w.heap.size+1]? =some (.cells #[St s2,St t2] 121 (0,0)):=(hb4.block _ (by omega)).trans B3;have z4:W3.heap.size<=w4.heap.size:=hb4.size;have C4:w4.cell? ⟨c,0,none⟩=some (.func (.func 128) #[] #[]):=by rw[hB4.cell (p:=⟨c,0,none⟩) zc];exact hc
 have HC:=hid hc;clear hc;clear hb4 A3 B3;go_wp2_with fail;refine(M3.out _ (HW.out.below hB4)).mono ?_;rintro e w5 ⟨rfl,hb5⟩;have hB5:=hB4.trans (hb5.mono hB4.size);have A5:w5.heap[w.heap.size]? =some (.cells #[St s1,St t1] 121 (0,0)):=(hb5.block _ (by omega)).trans A4;have B5:w5.heap[w.heap.size+1]? =some (.cells #[St s2,St t2] 121 (0,0)):=(hb5.block _ (by omega)).trans B4;have A51:w5.cell? ⟨w.heap.size,1,none⟩=some (St t1):=by simp[World.cell?,A5]
 have B51:w5.cell? ⟨w.heap.size+1,1,none⟩=some (St t2):=by simp[World.cell?,B5]
 clear hb5 A4 B4 C4 A5 B5;go_wp2_with fail;refine(M2.out _ (HW.out.below hB5)).mono ?_;rintro e w6 ⟨rfl,hb6⟩;have hB6:=hB5.trans (hb6.mono hB5.size);clear hb6 A51 B51;go_wp2_with fail;refine(HN.out _ (HW.out.below hB6)).mono ?_;rintro e w7 ⟨rfl,hb7⟩;have hB7:=hB6.trans (hb7.mono hB6.size);clear hb7;go_wp2_with fail;go_ret2;exact⟨rfl,hB7⟩
theorem zy9 (a b:Rat) (ha:okQ a) (hb:okQ b) (h1:digs (a.num*b.den)<=300) (h2:digs (b.num*a.den)<=300) (h3:digs (a.num*b.den-b.num*a.den)<=300) (h4:(zD (a.den*b.den)).length<=300)
 (c:Nat) (w:zA) (hc:w.cell? ⟨c,0,none⟩=some (.func (.func 155) #[] #[])) (hw:Wd w):
 qJ 214 #[zb1 a,zb1 b,.pointer (some ⟨c,0,none⟩)] w (.tuple #[St (numS (a-b)),.int .i64 0]):=by
 have m1:=λW hW=>zhc a.num b.num a.den b.den ha.1 hb.1 ha.2 hb.2 h1 W hW;rw[zcf h2,zcg h2] at m1;have m3:=λW hW=>z1e (a.num*b.den) (b.num*a.den) h1 h2 W hW;rw[zcf h3,zcg h3] at m3;have m2:=λW hW=>zhk (a.den:Int) (b.den:Int) (by rw[zd9];exact ha.2) (by rw[zd9];exact hb.2) W hW;rw[<-Int.natCast_mul,Str.zad,Str.zad] at m2;have h4':digs ((a.den*b.den:Nat):Int)<=300:=by rw[zd9];exact h4
 rw[zcf h4',zcg h4'] at m2;have hn:=λW hW=>zfa (a.num*b.den-b.num*a.den) ((a.den*b.den:Nat):Int) (by have:=Nat.mul_pos a.den_pos b.den_pos;omega) h3 h4' W hW;rw[<-znk] at hn;unfold zb1;generalize zE a.num=s1 at m1⊢;generalize zE b.num=s2 at m1⊢;generalize zD a.den=t1 at m1 m2⊢;generalize zD b.den=t2 at m1 m2⊢;generalize zE (a.num*b.den-b.num*a.den)=u at m3 hn;generalize zE (a.num*b.den)=u1 at m1 m3;generalize zE (b.num*a.den)=u2 at m1 m3;generalize zE ((a.den*b.den:Nat):Int)=v at m2 hn;generalize numS (a-b)=r at hn⊢;have M1:=hid m1;have M2:=hid m2;have M3:=hid m3;have HN:=hid hn;have HW:=hid hw;clear m1 m2 m3 hn hw h1 h2 h3 h4 h4' ha hb;have zc:=zbe hc;dsimp only at zc;obtain⟨W3,hW3⟩:∃W3,W3=(w.alloc (.cells #[St s1,St t1] 121)).alloc (.cells #[St s2,St t2] 121):=⟨_,rfl⟩;have hB0:qL w W3:=by rw[hW3];exact((zM _ w).alloc (zN _) _).alloc (by simp) _
 have z0:W3.heap.size=w.heap.size+1+1:=by rw[hW3];simp
 have A3:W3.heap[w.heap.size]? =some (.cells #[St s1,St t1] 121 (0,0)):=by
  rw[hW3];exact(Below.heap_alloc _ _ _ (by simp only[zH];omega)).trans (zG w _)
 have B3:W3.heap[w.heap.size+1]? =some (.cells #[St s2,St t2] 121 (0,0)):=by
  have:=zG (w.alloc (.cells #[St s1,St t1] 121)) (.cells #[St s2,St t2] 121 (0,0));rw[zH] at this;rw[hW3];exact this
 have HW3:=hid hW3;clear hW3;go_enter Tryz.func214,Tryz.ntmps214;go_wp2_with fail;rw[<-HW3.out];refine(M1.out _ (HW.out.below hB0)).mono ?_;rintro e w4 ⟨rfl,hb4⟩;have hB4:=hB0.trans (hb4.mono hB0.size);have A4:w4.heap[w.heap.size]? =some (.cells #[St s1,St t1] 121 (0,0)):=(hb4.block _ (by omega)).trans A3;have B4:w4.heap[w.heap.size+1]? =some (.cells #[St s2,St t2] 121 (0,0)):=(hb4.block _ (by omega)).trans B3;have z4:W3.heap.size<=w4.heap.size:=hb4.size;have C4:w4.cell? ⟨c,0,none⟩=some (.func (.func 155) #[] #[]):=by rw[hB4.cell (p:=⟨c,0,none⟩) zc];exact hc
 have HC:=hid hc;clear hc;clear hb4 A3 B3;go_wp2_with fail;refine(M3.out _ (HW.out.below hB4)).mono ?_;rintro e w5 ⟨rfl,hb5⟩;have hB5:=hB4.trans (hb5.mono hB4.size);have A5:w5.heap[w.heap.size]? =some (.cells #[St s1,St t1] 121 (0,0)):=(hb5.block _ (by omega)).trans A4;have B5:w5.heap[w.heap.size+1]? =some (.cells #[St s2,St t2] 121 (0,0)):=(hb5.block _ (by omega)).trans B4;have A51:w5.cell? ⟨w.heap.size,1,none⟩=some (St t1):=by simp[World.cell?,A5]
 have B51:w5.cell? ⟨w.heap.size+1,1,none⟩=some (St t2):=by simp[World.cell?,B5]
 clear hb5 A4 B4 C4 A5 B5;go_wp2_with fail;refine(M2.out _ (HW.out.below hB5)).mono ?_;rintro e w6 ⟨rfl,hb6⟩;have hB6:=hB5.trans (hb6.mono hB5.size);clear hb6 A51 B51;go_wp2_with fail;refine(HN.out _ (HW.out.below hB6)).mono ?_;rintro e w7 ⟨rfl,hb7⟩;have hB7:=hB6.trans (hb7.mono hB6.size);clear hb7;go_wp2_with fail;go_ret2;exact⟨rfl,hB7⟩
theorem zk4 (f:Nat) (w:zA):
 zC zF 154 #[.func (.func f) #[] #[]] w λe w'=>∃t,e=.returned (.func (.func 214) #[] #[.pointer (some ⟨w.heap.size,0,none⟩)])/\w.alloc (.cells #[.func (.func f) #[] #[]] t)=w':=by
 go_enter Tryz.func154,Tryz.ntmps154;go_wp2_with fail;go_ret;exact⟨_,rfl,rfl⟩
theorem zo5 (a b:Rat) (ha:okQ a) (hb:okQ b) (c:Nat) (r:List UInt8) (w:zA) (hw:Wd w)
 (H:∀W:zA,qL w W->Wd W->qJ 214 #[zb1 a,zb1 b,.pointer (some ⟨c,0,none⟩)] W (.tuple #[St r,.int .i64 0])):
 qJ 73 #[St (numS a),St (numS b),.func (.func 214) #[] #[.pointer (some ⟨c,0,none⟩)]] w (.tuple #[St r,.int .i64 0]):=by
 have r1:=λW hW=>zek a ha W hW;have r2:=λW hW=>zek b hb W hW;unfold zb1 at H;generalize numS a=x at r1⊢;generalize numS b=y at r2⊢;generalize zE a.num=s1 at H r1;generalize zE b.num=s2 at H r2;generalize zD a.den=t1 at H r1;generalize zD b.den=t2 at H r2;have R1:=hid r1;have R2:=hid r2;have HH:=hid H;have HW:=hid hw;clear r1 r2 H hw ha hb;go_enter Tryz.func73,Tryz.ntmps73;go_wp2_with fail;refine(R1.out _ HW.out).mono ?_;rintro e w1 ⟨rfl,hB1⟩;have hB1':=hB1.alloc hB1.size (.cells #[.string ⟨s1.toArray⟩,.string ⟨t1.toArray⟩] 121);go_wp2_with fail;refine(R2.out _ (HW.out.below hB1')).mono ?_;rintro e w2 ⟨rfl,hb2⟩;have hz1:=hB1.size;have z2:w1.heap.size<w2.heap.size:=by have:=hb2.size;simp at this;omega
 have hB2:=hB1'.trans (hb2.mono hB1'.size);have A2:w2.heap[w1.heap.size]? =some (.cells #[.string ⟨s1.toArray⟩,.string ⟨t1.toArray⟩] 121 (0,0)):=(hb2.block _ (by simp)).trans (zG w1 _);have A20:w2.cell? ⟨w1.heap.size,0,none⟩=some (.string ⟨s1.toArray⟩):=by simp[World.cell?,A2]
 have A21:w2.cell? ⟨w1.heap.size,1,none⟩=some (.string ⟨t1.toArray⟩):=by simp[World.cell?,A2]
 have hB3:=hB2.alloc hB2.size (.cells #[.string ⟨s2.toArray⟩,.string ⟨t2.toArray⟩] 121);clear hb2 A2 hB1 hB1';go_wp2_with fail;refine(HH.out _ hB3 (HW.out.below hB3)).mono ?_;rintro e w4 ⟨rfl,hb4⟩;have hB4:=hB3.trans (hb4.mono hB3.size);clear hb4;go_wp2_with fail;go_ret2;exact⟨rfl,hB4⟩
theorem zza (a b:Rat) (ha:okQ a) (hb:okQ b) (r:List UInt8) (w:zA) (hw:Wd w)
 (H:∀W:zA,qL w W->Wd W->qJ 120 #[zb1 a,zb1 b] W (.tuple #[St r,.int .i64 0])):
 qJ 73 #[St (numS a),St (numS b),.func (.func 120) #[] #[]] w (.tuple #[St r,.int .i64 0]):=by
 have r1:=λW hW=>zek a ha W hW;have r2:=λW hW=>zek b hb W hW;unfold zb1 at H;generalize numS a=x at r1⊢;generalize numS b=y at r2⊢;generalize zE a.num=s1 at H r1;generalize zE b.num=s2 at H r2;generalize zD a.den=t1 at H r1;generalize zD b.den=t2 at H r2;have R1:=hid r1;have R2:=hid r2;have HH:=hid H;have HW:=hid hw;clear r1 r2 H hw ha hb;go_enter Tryz.func73,Tryz.ntmps73;go_wp2_with fail;refine(R1.out _ HW.out).mono ?_;rintro e w1 ⟨rfl,hB1⟩;have hB1':=hB1.alloc hB1.size (.cells #[.string ⟨s1.toArray⟩,.string ⟨t1.toArray⟩] 121);go_wp2_with fail;refine(R2.out _ (HW.out.below hB1')).mono ?_;rintro e w2 ⟨rfl,hb2⟩;have hz1:=hB1.size;have z2:w1.heap.size<w2.heap.size:=by have:=hb2.size;simp at this;omega
 have hB2:=hB1'.trans (hb2.mono hB1'.size);have A2:w2.heap[w1.heap.size]? =some (.cells #[.string ⟨s1.toArray⟩,.string ⟨t1.toArray⟩] 121 (0,0)):=(hb2.block _ (by simp)).trans (zG w1 _);have A20:w2.cell? ⟨w1.heap.size,0,none⟩=some (.string ⟨s1.toArray⟩):=by simp[World.cell?,A2]
 have A21:w2.cell? ⟨w1.heap.size,1,none⟩=some (.string ⟨t1.toArray⟩):=by simp[World.cell?,A2]
 have hB3:=hB2.alloc hB2.size (.cells #[.string ⟨s2.toArray⟩,.string ⟨t2.toArray⟩] 121);clear hb2 A2 hB1 hB1';go_wp2_with fail;refine(HH.out _ hB3 (HW.out.below hB3)).mono ?_;rintro e w4 ⟨rfl,hb4⟩;have hB4:=hB3.trans (hb4.mono hB3.size);clear hb4;go_wp2_with fail;go_ret2;exact⟨rfl,hB4⟩
theorem zzb (a b:Rat) (ha:okQ a) (hb:okQ b) (r:List UInt8) {E:Int} (w:zA) (hw:Wd w)
 (H:∀W:zA,qL w W->Wd W->qJ 74 #[zb1 a,zb1 b] W (.tuple #[St r,.int .i64 E])):
 qJ 73 #[St (numS a),St (numS b),.func (.func 74) #[] #[]] w (.tuple #[St r,.int .i64 E]):=by
 have r1:=λW hW=>zek a ha W hW;have r2:=λW hW=>zek b hb W hW;unfold zb1 at H;generalize numS a=x at r1⊢;generalize numS b=y at r2⊢;generalize zE a.num=s1 at H r1;generalize zE b.num=s2 at H r2;generalize zD a.den=t1 at H r1;generalize zD b.den=t2 at H r2;have R1:=hid r1;have R2:=hid r2;have HH:=hid H;have HW:=hid hw;clear r1 r2 H hw ha hb;go_enter Tryz.func73,Tryz.ntmps73;go_wp2_with fail;refine(R1.out _ HW.out).mono ?_;rintro e w1 ⟨rfl,hB1⟩;have hB1':=hB1.alloc hB1.size (.cells #[.string ⟨s1.toArray⟩,.string ⟨t1.toArray⟩] 121);go_wp2_with fail;refine(R2.out _ (HW.out.below hB1')).mono ?_;rintro e w2 ⟨rfl,hb2⟩;have hz1:=hB1.size;have z2:w1.heap.size<w2.heap.size:=by have:=hb2.size;simp at this;omega
 have hB2:=hB1'.trans (hb2.mono hB1'.size);have A2:w2.heap[w1.heap.size]? =some (.cells #[.string ⟨s1.toArray⟩,.string ⟨t1.toArray⟩] 121 (0,0)):=(hb2.block _ (by simp)).trans (zG w1 _);have A20:w2.cell? ⟨w1.heap.size,0,none⟩=some (.string ⟨s1.toArray⟩):=by simp[World.cell?,A2]
 have A21:w2.cell? ⟨w1.heap.size,1,none⟩=some (.string ⟨t1.toArray⟩):=by simp[World.cell?,A2]
 have hB3:=hB2.alloc hB2.size (.cells #[.string ⟨s2.toArray⟩,.string ⟨t2.toArray⟩] 121);clear hb2 A2 hB1 hB1';go_wp2_with fail;refine(HH.out _ hB3 (HW.out.below hB3)).mono ?_;rintro e w4 ⟨rfl,hb4⟩;have hB4:=hB3.trans (hb4.mono hB3.size);clear hb4;go_wp2_with fail;go_ret2;exact⟨rfl,hB4⟩
theorem zp2 (a b:Rat) (ha:zbb a) (hb:zbb b) (n d:Int) (r:List UInt8) (w:zA) (hw:Wd w)
 (H:∀W:zA,qJ 156 #[.agg #[.int .i64 a.num,I a.den],.agg #[.int .i64 b.num,I b.den]] W (.agg #[.int .i64 n,.int .i64 d]))
 (N:qK 113 #[.agg #[.int .i64 n,.int .i64 d]] (St r)):
 qJ 71 #[St (numS a),St (numS b),.func (.func 156) #[] #[]] w (.tuple #[St r,.bool true]):=by
 have r1:=λW=>zbm a ha W;have r2:=λW=>zbm b hb W;generalize numS a=x at r1⊢;generalize numS b=y at r2⊢;generalize a.num=n1 at H r1;generalize b.num=n2 at H r2;generalize a.den=d1 at H r1;generalize b.den=d2 at H r2;have R1:=hid r1;have R2:=hid r2;have HH:=hid H;have HN:=hid N;have HW:=hid hw;clear r1 r2 H N hw ha hb;go_enter Tryz.func71,Tryz.ntmps71;go_wp2_with fail;refine(R1.out _).mono ?_;rintro e w1 ⟨rfl,hB1⟩;have hB1':=hB1.alloc hB1.size (.cells #[.int .i64 n1,.int .i64 (d1:Int)] 117);go_wp2_with fail;refine(R2.out _).mono ?_;rintro e w2 ⟨rfl,hb2⟩;have hz1:=hB1.size;have z2:w1.heap.size<w2.heap.size:=by have:=hb2.size;simp at this;omega
 have hB2:=hB1'.trans (hb2.mono hB1'.size);have A2:w2.heap[w1.heap.size]? =some (.cells #[.int .i64 n1,.int .i64 (d1:Int)] 117 (0,0)):=(hb2.block _ (by simp)).trans (zG w1 _);have A20:w2.cell? ⟨w1.heap.size,0,none⟩=some (.int .i64 n1):=by simp[World.cell?,A2]
 have A21:w2.cell? ⟨w1.heap.size,1,none⟩=some (.int .i64 (d1:Int)):=by simp[World.cell?,A2]
 have hB3:=hB2.alloc hB2.size (.cells #[.int .i64 n2,.int .i64 (d2:Int)] 117);clear hb2 A2 hB1 hB1';go_wp2_with fail;refine(HH.out _).mono ?_;rintro e w4 ⟨rfl,hb4⟩;have hB4:=hB3.trans (hb4.mono hB3.size);clear hb4;go_wp2_with fail;refine(HN.out _ (HW.out.below hB4)).mono ?_;rintro e w5 ⟨rfl,hb5⟩;have hB5:=hB4.trans (hb5.mono hB4.size);clear hb5;go_wp2_with fail;go_ret2;exact⟨rfl,hB5⟩
theorem zrb (a b:Rat) (h:¬(zbb a/\zbb b)) (ha:okQ a) (hb:okQ b) (w:zA):
 qJ 71 #[St (numS a),St (numS b),.func (.func 156) #[] #[]] w (.tuple #[St [],.bool false]):=by
 by_cases h1:zbb a
 ·have h2:¬zbb b:=λh2=>h ⟨h1,h2⟩
  have r1:=λW=>zbm a h1 W;have r2:=λW=>zb5 b h2 (zO hb.1 (by omega)) (zO hb.2 (by omega)) W;generalize numS a=x at r1⊢;generalize numS b=y at r2⊢;generalize a.num=n1 at r1;generalize a.den=d1 at r1;have R1:=hid r1;have R2:=hid r2;clear r1 r2 h1 h2 h ha hb;go_enter Tryz.func71,Tryz.ntmps71;go_wp2_with fail;refine(R1.out _).mono ?_;rintro e w1 ⟨rfl,hB1⟩;have hB1':=hB1.alloc hB1.size (.cells #[.int .i64 n1,.int .i64 (d1:Int)] 117);go_wp2_with fail;refine(R2.out _).mono ?_;rintro e w2 ⟨rfl,hb2⟩;have hB2:=hB1'.trans (hb2.mono hB1'.size);clear hb2 hB1 hB1';go_wp2_with fail;go_ret2;exact⟨rfl,hB2.alloc hB2.size _⟩
 ·have r1:=λW=>zb5 a h1 (zO ha.1 (by omega)) (zO ha.2 (by omega)) W
  generalize numS a=x at r1⊢;generalize numS b=y at⊢;have R1:=hid r1;clear r1 h1 h ha hb;go_enter Tryz.func71,Tryz.ntmps71;go_wp2_with fail;refine(R1.out _).mono ?_;rintro e w1 ⟨rfl,hB1⟩;go_wp2_with fail;go_ret2;exact⟨rfl,hB1.alloc hB1.size _⟩
theorem zp3 (a b:Rat) (ha:zbb a) (hb:zbb b) (n d:Int) (r:List UInt8) (w:zA) (hw:Wd w)
 (H:∀W:zA,qJ 153 #[.agg #[.int .i64 a.num,I a.den],.agg #[.int .i64 b.num,I b.den]] W (.agg #[.int .i64 n,.int .i64 d]))
 (N:qK 113 #[.agg #[.int .i64 n,.int .i64 d]] (St r)):
 qJ 71 #[St (numS a),St (numS b),.func (.func 153) #[] #[]] w (.tuple #[St r,.bool true]):=by
 have r1:=λW=>zbm a ha W;have r2:=λW=>zbm b hb W;generalize numS a=x at r1⊢;generalize numS b=y at r2⊢;generalize a.num=n1 at H r1;generalize b.num=n2 at H r2;generalize a.den=d1 at H r1;generalize b.den=d2 at H r2;have R1:=hid r1;have R2:=hid r2;have HH:=hid H;have HN:=hid N;have HW:=hid hw;clear r1 r2 H N hw ha hb;go_enter Tryz.func71,Tryz.ntmps71;go_wp2_with fail;refine(R1.out _).mono ?_;rintro e w1 ⟨rfl,hB1⟩;have hB1':=hB1.alloc hB1.size (.cells #[.int .i64 n1,.int .i64 (d1:Int)] 117);go_wp2_with fail;refine(R2.out _).mono ?_;rintro e w2 ⟨rfl,hb2⟩;have hz1:=hB1.size;have z2:w1.heap.size<w2.heap.size:=by have:=hb2.size;simp at this;omega
 have hB2:=hB1'.trans (hb2.mono hB1'.size);have A2:w2.heap[w1.heap.size]? =some (.cells #[.int .i64 n1,.int .i64 (d1:Int)] 117 (0,0)):=(hb2.block _ (by simp)).trans (zG w1 _);have A20:w2.cell? ⟨w1.heap.size,0,none⟩=some (.int .i64 n1):=by simp[World.cell?,A2]
 have A21:w2.cell? ⟨w1.heap.size,1,none⟩=some (.int .i64 (d1:Int)):=by simp[World.cell?,A2]
 have hB3:=hB2.alloc hB2.size (.cells #[.int .i64 n2,.int .i64 (d2:Int)] 117);clear hb2 A2 hB1 hB1';go_wp2_with fail;refine(HH.out _).mono ?_;rintro e w4 ⟨rfl,hb4⟩;have hB4:=hB3.trans (hb4.mono hB3.size);clear hb4;go_wp2_with fail;refine(HN.out _ (HW.out.below hB4)).mono ?_;rintro e w5 ⟨rfl,hb5⟩;have hB5:=hB4.trans (hb5.mono hB4.size);clear hb5;go_wp2_with fail;go_ret2;exact⟨rfl,hB5⟩
theorem zrc (a b:Rat) (h:¬(zbb a/\zbb b)) (ha:okQ a) (hb:okQ b) (w:zA):
 qJ 71 #[St (numS a),St (numS b),.func (.func 153) #[] #[]] w (.tuple #[St [],.bool false]):=by
 by_cases h1:zbb a
 ·have h2:¬zbb b:=λh2=>h ⟨h1,h2⟩
  have r1:=λW=>zbm a h1 W;have r2:=λW=>zb5 b h2 (zO hb.1 (by omega)) (zO hb.2 (by omega)) W;generalize numS a=x at r1⊢;generalize numS b=y at r2⊢;generalize a.num=n1 at r1;generalize a.den=d1 at r1;have R1:=hid r1;have R2:=hid r2;clear r1 r2 h1 h2 h ha hb;go_enter Tryz.func71,Tryz.ntmps71;go_wp2_with fail;refine(R1.out _).mono ?_;rintro e w1 ⟨rfl,hB1⟩;have hB1':=hB1.alloc hB1.size (.cells #[.int .i64 n1,.int .i64 (d1:Int)] 117);go_wp2_with fail;refine(R2.out _).mono ?_;rintro e w2 ⟨rfl,hb2⟩;have hB2:=hB1'.trans (hb2.mono hB1'.size);clear hb2 hB1 hB1';go_wp2_with fail;go_ret2;exact⟨rfl,hB2.alloc hB2.size _⟩
 ·have r1:=λW=>zb5 a h1 (zO ha.1 (by omega)) (zO ha.2 (by omega)) W
  generalize numS a=x at r1⊢;generalize numS b=y at⊢;have R1:=hid r1;clear r1 h1 h ha hb;go_enter Tryz.func71,Tryz.ntmps71;go_wp2_with fail;refine(R1.out _).mono ?_;rintro e w1 ⟨rfl,hB1⟩;go_wp2_with fail;go_ret2;exact⟨rfl,hB1.alloc hB1.size _⟩
theorem zp4 (a b:Rat) (ha:zbb a) (hb:zbb b) (n d:Int) (r:List UInt8) (w:zA) (hw:Wd w)
 (H:∀W:zA,qJ 119 #[.agg #[.int .i64 a.num,I a.den],.agg #[.int .i64 b.num,I b.den]] W (.agg #[.int .i64 n,.int .i64 d]))
 (N:qK 113 #[.agg #[.int .i64 n,.int .i64 d]] (St r)):
 qJ 71 #[St (numS a),St (numS b),.func (.func 119) #[] #[]] w (.tuple #[St r,.bool true]):=by
 have r1:=λW=>zbm a ha W;have r2:=λW=>zbm b hb W;generalize numS a=x at r1⊢;generalize numS b=y at r2⊢;generalize a.num=n1 at H r1;generalize b.num=n2 at H r2;generalize a.den=d1 at H r1;generalize b.den=d2 at H r2;have R1:=hid r1;have R2:=hid r2;have HH:=hid H;have HN:=hid N;have HW:=hid hw;clear r1 r2 H N hw ha hb;go_enter Tryz.func71,Tryz.ntmps71;go_wp2_with fail;refine(R1.out _).mono ?_;rintro e w1 ⟨rfl,hB1⟩;have hB1':=hB1.alloc hB1.size (.cells #[.int .i64 n1,.int .i64 (d1:Int)] 117);go_wp2_with fail;refine(R2.out _).mono ?_;rintro e w2 ⟨rfl,hb2⟩;have hz1:=hB1.size;have z2:w1.heap.size<w2.heap.size:=by have:=hb2.size;simp at this;omega
 have hB2:=hB1'.trans (hb2.mono hB1'.size);have A2:w2.heap[w1.heap.size]? =some (.cells #[.int .i64 n1,.int .i64 (d1:Int)] 117 (0,0)):=(hb2.block _ (by simp)).trans (zG w1 _);have A20:w2.cell? ⟨w1.heap.size,0,none⟩=some (.int .i64 n1):=by simp[World.cell?,A2]
 have A21:w2.cell? ⟨w1.heap.size,1,none⟩=some (.int .i64 (d1:Int)):=by simp[World.cell?,A2]
 have hB3:=hB2.alloc hB2.size (.cells #[.int .i64 n2,.int .i64 (d2:Int)] 117);clear hb2 A2 hB1 hB1';go_wp2_with fail;refine(HH.out _).mono ?_;rintro e w4 ⟨rfl,hb4⟩;have hB4:=hB3.trans (hb4.mono hB3.size);clear hb4;go_wp2_with fail;refine(HN.out _ (HW.out.below hB4)).mono ?_;rintro e w5 ⟨rfl,hb5⟩;have hB5:=hB4.trans (hb5.mono hB4.size);clear hb5;go_wp2_with fail;go_ret2;exact⟨rfl,hB5⟩
theorem zrd (a b:Rat) (h:¬(zbb a/\zbb b)) (ha:okQ a) (hb:okQ b) (w:zA):
 qJ 71 #[St (numS a),St (numS b),.func (.func 119) #[] #[]] w (.tuple #[St [],.bool false]):=by
 by_cases h1:zbb a
 ·have h2:¬zbb b:=λh2=>h ⟨h1,h2⟩
  have r1:=λW=>zbm a h1 W;have r2:=λW=>zb5 b h2 (zO hb.1 (by omega)) (zO hb.2 (by omega)) W;generalize numS a=x at r1⊢;generalize numS b=y at r2⊢;generalize a.num=n1 at r1;generalize a.den=d1 at r1;have R1:=hid r1;have R2:=hid r2;clear r1 r2 h1 h2 h ha hb;go_enter Tryz.func71,Tryz.ntmps71;go_wp2_with fail;refine(R1.out _).mono ?_;rintro e w1 ⟨rfl,hB1⟩;have hB1':=hB1.alloc hB1.size (.cells #[.int .i64 n1,.int .i64 (d1:Int)] 117);go_wp2_with fail;refine(R2.out _).mono ?_;rintro e w2 ⟨rfl,hb2⟩;have hB2:=hB1'.trans (hb2.mono hB1'.size);clear hb2 hB1 hB1';go_wp2_with fail;go_ret2;exact⟨rfl,hB2.alloc hB2.size _⟩
 ·have r1:=λW=>zb5 a h1 (zO ha.1 (by omega)) (zO ha.2 (by omega)) W
  generalize numS a=x at r1⊢;generalize numS b=y at⊢;have R1:=hid r1;clear r1 h1 h ha hb;go_enter Tryz.func71,Tryz.ntmps71;go_wp2_with fail;refine(R1.out _).mono ?_;rintro e w1 ⟨rfl,hB1⟩;go_wp2_with fail;go_ret2;exact⟨rfl,hB1.alloc hB1.size _⟩
theorem zp5 (a b:Rat) (ha:zbb a) (hb:zbb b) (n d:Int) (r:List UInt8) (w:zA) (hw:Wd w)
 (H:∀W:zA,qJ 72 #[.agg #[.int .i64 a.num,I a.den],.agg #[.int .i64 b.num,I b.den]] W (.agg #[.int .i64 n,.int .i64 d]))
 (N:qK 113 #[.agg #[.int .i64 n,.int .i64 d]] (St r)):
 qJ 71 #[St (numS a),St (numS b),.func (.func 72) #[] #[]] w (.tuple #[St r,.bool true]):=by
 have r1:=λW=>zbm a ha W;have r2:=λW=>zbm b hb W;generalize numS a=x at r1⊢;generalize numS b=y at r2⊢;generalize a.num=n1 at H r1;generalize b.num=n2 at H r2;generalize a.den=d1 at H r1;generalize b.den=d2 at H r2;have R1:=hid r1;have R2:=hid r2;have HH:=hid H;have HN:=hid N;have HW:=hid hw;clear r1 r2 H N hw ha hb;go_enter Tryz.func71,Tryz.ntmps71;go_wp2_with fail;refine(R1.out _).mono ?_;rintro e w1 ⟨rfl,hB1⟩;have hB1':=hB1.alloc hB1.size (.cells #[.int .i64 n1,.int .i64 (d1:Int)] 117);go_wp2_with fail;refine(R2.out _).mono ?_;rintro e w2 ⟨rfl,hb2⟩;have hz1:=hB1.size;have z2:w1.heap.size<w2.heap.size:=by have:=hb2.size;simp at this;omega
 have hB2:=hB1'.trans (hb2.mono hB1'.size);have A2:w2.heap[w1.heap.size]? =some (.cells #[.int .i64 n1,.int .i64 (d1:Int)] 117 (0,0)):=(hb2.block _ (by simp)).trans (zG w1 _);have A20:w2.cell? ⟨w1.heap.size,0,none⟩=some (.int .i64 n1):=by simp[World.cell?,A2]
 have A21:w2.cell? ⟨w1.heap.size,1,none⟩=some (.int .i64 (d1:Int)):=by simp[World.cell?,A2]
 have hB3:=hB2.alloc hB2.size (.cells #[.int .i64 n2,.int .i64 (d2:Int)] 117);clear hb2 A2 hB1 hB1';go_wp2_with fail;refine(HH.out _).mono ?_;rintro e w4 ⟨rfl,hb4⟩;have hB4:=hB3.trans (hb4.mono hB3.size);clear hb4;go_wp2_with fail;refine(HN.out _ (HW.out.below hB4)).mono ?_;rintro e w5 ⟨rfl,hb5⟩;have hB5:=hB4.trans (hb5.mono hB4.size);clear hb5;go_wp2_with fail;go_ret2;exact⟨rfl,hB5⟩
theorem zre (a b:Rat) (h:¬(zbb a/\zbb b)) (ha:okQ a) (hb:okQ b) (w:zA):
 qJ 71 #[St (numS a),St (numS b),.func (.func 72) #[] #[]] w (.tuple #[St [],.bool false]):=by
 by_cases h1:zbb a
 ·have h2:¬zbb b:=λh2=>h ⟨h1,h2⟩
  have r1:=λW=>zbm a h1 W;have r2:=λW=>zb5 b h2 (zO hb.1 (by omega)) (zO hb.2 (by omega)) W;generalize numS a=x at r1⊢;generalize numS b=y at r2⊢;generalize a.num=n1 at r1;generalize a.den=d1 at r1;have R1:=hid r1;have R2:=hid r2;clear r1 r2 h1 h2 h ha hb;go_enter Tryz.func71,Tryz.ntmps71;go_wp2_with fail;refine(R1.out _).mono ?_;rintro e w1 ⟨rfl,hB1⟩;have hB1':=hB1.alloc hB1.size (.cells #[.int .i64 n1,.int .i64 (d1:Int)] 117);go_wp2_with fail;refine(R2.out _).mono ?_;rintro e w2 ⟨rfl,hb2⟩;have hB2:=hB1'.trans (hb2.mono hB1'.size);clear hb2 hB1 hB1';go_wp2_with fail;go_ret2;exact⟨rfl,hB2.alloc hB2.size _⟩
 ·have r1:=λW=>zb5 a h1 (zO ha.1 (by omega)) (zO ha.2 (by omega)) W
  generalize numS a=x at r1⊢;generalize numS b=y at⊢;have R1:=hid r1;clear r1 h1 h ha hb;go_enter Tryz.func71,Tryz.ntmps71;go_wp2_with fail;refine(R1.out _).mono ?_;rintro e w1 ⟨rfl,hB1⟩;go_wp2_with fail;go_ret2;exact⟨rfl,hB1.alloc hB1.size _⟩
theorem zhd {x:Int} {k:Nat} (hk:0<k) (h:x.natAbs<10^k):digs x<=k:=(zaf x.natAbs k hk).2 h
theorem zil {x k:Nat} (hk:0<k) (h:x<10^k):(zD x).length<=k:=(zaf x k hk).2 h
theorem zd0 {q:Rat} {k:Nat} (hk:0<k) (hk3:k<=300) (h:sz q k):okQ q:=
 ⟨zO (zhd hk h.1) hk3,zO (zil hk h.2) hk3⟩
theorem zcv {q:Rat} (h:zbb q):(-100000000<q.num/\q.num<100000000)/\(-100000000<(q.den:Int)/\(q.den:Int)<100000000):=by
 have h1:=(zaf q.num.natAbs 8 (by omega)).1 h.1;have h2:=(zaf q.den 8 (by omega)).1 h.2;omega
theorem zzc {x y:Int} {k:Nat} (hk:0<k) (hx:digs x<=k) (hy:digs y<=k):digs (x-y)<=k+1:=by
 rw[Int.sub_eq_add_neg];exact zhz hk hx (by unfold digs at*;rw[Int.natAbs_neg];exact hy)
theorem zcd {x:Int} {d i j:Nat} (hi:0<i) (h1:x.natAbs<10^i) (h2:d<10^j):digs (x*d)<=i+j:=
 zhd (by omega) (by rw[ze0];exact zcc h1 h2)
theorem zje (a b:Rat) (i j:Nat) (hi:0<i) (hj:0<j) (hij:i+j<300) (ha:sz a i) (hb:sz b j) (w:zA) (hw:Wd w):
 qJ 111 #[St (numS a),St (numS b)] w (.tuple #[St (numS (a+b)),.int .i64 0]):=by
 have oa:=zd0 hi (by omega) ha;have ob:=zd0 hj (by omega) hb;by_cases h:zbb a/\zbb b
 ·obtain⟨h1,h2⟩:=h
  have e1:=zcv h1;have e2:=zcv h2;have hq:=λW hW=>zp2 a b h1 h2 (a.num*b.den+b.num*a.den) (a.den*b.den:Int) (numS (a+b)) W hW
   (λW=>nadd a.num a.den b.num b.den e1.1 e1.2 e2.1 e2.2 W)
   (λW hW=>by
     have p1:=zbs e1.1 e2.2;have p2:=zbs e2.1 e1.2;have p3:=zbs e1.2 e2.2;have:=zd8 (a.num*b.den+b.num*a.den) (a.den*b.den:Int) (Int.mul_ne_zero (by have:=a.den_pos;omega) (by have:=b.den_pos;omega)) (by omega) (by omega) W hW;rw[<-Int.natCast_mul,<-zf0] at this;rw[<-Int.natCast_mul];exact this)
  generalize numS a=x at hq⊢;generalize numS b=y at hq⊢;generalize numS (a+b)=r at hq⊢;have HQ:=hid hq;clear hq e1 e2 oa ob ha hb hi hj hij h1 h2;go_enter Tryz.func111,Tryz.ntmps111;go_wp2_with fail;refine(HQ.out _ hw).mono ?_;rintro e w1 ⟨rfl,hB1⟩;go_wp2_with fail;go_ret2;exact⟨rfl,hB1⟩
 ·have hq:=λW=>zrb a b h oa ob W
  have hbo:=λc W hW H=>zo5 a b oa ob c (numS (a+b)) W hW H;have k1:digs (a.num*b.den)<=300:=zO (zcd hi ha.1 hb.2) (by omega);have k2:digs (b.num*a.den)<=300:=zO (zcd hj hb.1 ha.2) (by omega);have k3:digs (a.num*b.den+b.num*a.den)<=300:=by
   have q1:=zcd hi ha.1 hb.2;have q2:=zcd hj hb.1 ha.2;rw[Nat.add_comm] at q2;have:=zhz (show 0<i+j by omega) q1 q2;omega
  have k4:(zD (a.den*b.den)).length<=300:=zO (zil (by omega) (zcc ha.2 hb.2)) (by omega);have hcb:=λc W hc hW=>zy8 a b oa ob k1 k2 k3 k4 c W hc hW;generalize numS a=x at hq hbo⊢;generalize numS b=y at hq hbo⊢;generalize numS (a+b)=r at hbo hcb⊢;generalize zb1 a=pa at hbo hcb;generalize zb1 b=pb at hbo hcb;have HQ:=hid hq;have HBO:=hid hbo;have HCB:=hid hcb;have HW:=hid hw;clear hq hbo hcb oa ob ha hb hi hj hij h k1 k2 k3 k4 hw;go_enter Tryz.func111,Tryz.ntmps111;go_wp2_with fail;refine(HQ.out _).mono ?_;rintro e w1 ⟨rfl,hB1⟩;go_wp2_with fail;refine(zk4 _ _).mono ?_;rintro e w2 ⟨t,rfl,rfl⟩;go_wp2_with fail;have hB2:=hB1.alloc hB1.size (.cells #[.func (.func 128) #[] #[]] t);have hc2:(w1.alloc (.cells #[.func (.func 128) #[] #[]] t)).cell? ⟨w1.heap.size,0,none⟩=some (.func (.func 128) #[] #[]):=by
   have:=zG w1 (.cells #[.func (.func 128) #[] #[]] t (0,0));simp only[World.cell?,this];rfl
  refine(HBO.out _ _ (HW.out.below hB2) (λW hb hW=>HCB.out _ W ((hb.cell (p:=⟨w1.heap.size,0,none⟩) (by simp)).trans hc2) hW)).mono ?_;rintro e w3 ⟨rfl,hb3⟩;have hB3:=hB2.trans (hb3.mono hB2.size);clear hc2 hb3;go_wp2_with fail;go_ret2;exact⟨rfl,hB3⟩
theorem ztz (a b:Rat) (i j:Nat) (hi:0<i) (hj:0<j) (hij:i+j<300) (ha:sz a i) (hb:sz b j) (w:zA) (hw:Wd w):
 qJ 109 #[St (numS a),St (numS b)] w (.tuple #[St (numS (a-b)),.int .i64 0]):=by
 have oa:=zd0 hi (by omega) ha;have ob:=zd0 hj (by omega) hb;by_cases h:zbb a/\zbb b
 ·obtain⟨h1,h2⟩:=h
  have e1:=zcv h1;have e2:=zcv h2;have hq:=λW hW=>zp3 a b h1 h2 (a.num*b.den-b.num*a.den) (a.den*b.den:Int) (numS (a-b)) W hW
   (λW=>nsub a.num a.den b.num b.den e1.1 e1.2 e2.1 e2.2 W)
   (λW hW=>by
     have p1:=zbs e1.1 e2.2;have p2:=zbs e2.1 e1.2;have p3:=zbs e1.2 e2.2;have:=zd8 (a.num*b.den-b.num*a.den) (a.den*b.den:Int) (Int.mul_ne_zero (by have:=a.den_pos;omega) (by have:=b.den_pos;omega)) (by omega) (by omega) W hW;rw[<-Int.natCast_mul,<-znk] at this;rw[<-Int.natCast_mul];exact this)
  generalize numS a=x at hq⊢;generalize numS b=y at hq⊢;generalize numS (a-b)=r at hq⊢;have HQ:=hid hq;clear hq e1 e2 oa ob ha hb hi hj hij h1 h2;go_enter Tryz.func109,Tryz.ntmps109;go_wp2_with fail;refine(HQ.out _ hw).mono ?_;rintro e w1 ⟨rfl,hB1⟩;go_wp2_with fail;go_ret2;exact⟨rfl,hB1⟩
 ·have hq:=λW=>zrc a b h oa ob W
  have hbo:=λc W hW H=>zo5 a b oa ob c (numS (a-b)) W hW H;have k1:digs (a.num*b.den)<=300:=zO (zcd hi ha.1 hb.2) (by omega);have k2:digs (b.num*a.den)<=300:=zO (zcd hj hb.1 ha.2) (by omega);have k3:digs (a.num*b.den-b.num*a.den)<=300:=by
   have q1:=zcd hi ha.1 hb.2;have q2:=zcd hj hb.1 ha.2;rw[Nat.add_comm] at q2;have:=zzc (show 0<i+j by omega) q1 q2;omega
  have k4:(zD (a.den*b.den)).length<=300:=zO (zil (by omega) (zcc ha.2 hb.2)) (by omega);have hcb:=λc W hc hW=>zy9 a b oa ob k1 k2 k3 k4 c W hc hW;generalize numS a=x at hq hbo⊢;generalize numS b=y at hq hbo⊢;generalize numS (a-b)=r at hbo hcb⊢;generalize zb1 a=pa at hbo hcb;generalize zb1 b=pb at hbo hcb;have HQ:=hid hq;have HBO:=hid hbo;have HCB:=hid hcb;have HW:=hid hw;clear hq hbo hcb oa ob ha hb hi hj hij h k1 k2 k3 k4 hw;go_enter Tryz.func109,Tryz.ntmps109;go_wp2_with fail;refine(HQ.out _).mono ?_;rintro e w1 ⟨rfl,hB1⟩;go_wp2_with fail;refine(zk4 _ _).mono ?_;rintro e w2 ⟨t,rfl,rfl⟩;go_wp2_with fail;have hB2:=hB1.alloc hB1.size (.cells #[.func (.func 155) #[] #[]] t);have hc2:(w1.alloc (.cells #[.func (.func 155) #[] #[]] t)).cell? ⟨w1.heap.size,0,none⟩=some (.func (.func 155) #[] #[]):=by
   have:=zG w1 (.cells #[.func (.func 155) #[] #[]] t (0,0));simp only[World.cell?,this];rfl
  refine(HBO.out _ _ (HW.out.below hB2) (λW hb hW=>HCB.out _ W ((hb.cell (p:=⟨w1.heap.size,0,none⟩) (by simp)).trans hc2) hW)).mono ?_;rintro e w3 ⟨rfl,hb3⟩;have hB3:=hB2.trans (hb3.mono hB2.size);clear hc2 hb3;go_wp2_with fail;go_ret2;exact⟨rfl,hB3⟩
theorem zjf (a b:Rat) (i j:Nat) (hi:0<i) (hj:0<j) (hij:i+j<=300) (ha:sz a i) (hb:sz b j) (w:zA) (hw:Wd w):
 qJ 79 #[St (numS a),St (numS b)] w (.tuple #[St (numS (a*b)),.int .i64 0]):=by
 have oa:=zd0 hi (by omega) ha;have ob:=zd0 hj (by omega) hb;by_cases h:zbb a/\zbb b
 ·obtain⟨h1,h2⟩:=h
  have e1:=zcv h1;have e2:=zcv h2;have hq:=λW hW=>zp4 a b h1 h2 (a.num*b.num) (a.den*b.den:Int) (numS (a*b)) W hW
   (λW=>nmul a.num a.den b.num b.den e1.1 e1.2 e2.1 e2.2 W)
   (λW hW=>by
     have p1:=zbs e1.1 e2.1;have p3:=zbs e1.2 e2.2;have:=zd8 (a.num*b.num) (a.den*b.den:Int) (Int.mul_ne_zero (by have:=a.den_pos;omega) (by have:=b.den_pos;omega)) (by omega) (by omega) W hW;rw[<-Int.natCast_mul,<-zf1] at this;rw[<-Int.natCast_mul];exact this)
  generalize numS a=x at hq⊢;generalize numS b=y at hq⊢;generalize numS (a*b)=r at hq⊢;have HQ:=hid hq;clear hq e1 e2 oa ob ha hb hi hj hij h1 h2;go_enter Tryz.func79,Tryz.ntmps79;go_wp2_with fail;refine(HQ.out _ hw).mono ?_;rintro e w1 ⟨rfl,hB1⟩;go_wp2_with fail;go_ret2;exact⟨rfl,hB1⟩
 ·have hq:=λW=>zrd a b h oa ob W
  have k1:digs (a.num*b.num)<=300:=zO (zhd (by omega) (by rw[Int.natAbs_mul];exact zcc ha.1 hb.1)) hij;have k4:(zD (a.den*b.den)).length<=300:=zO (zil (by omega) (zcc ha.2 hb.2)) hij;have hbo:=λW hW=>zza a b oa ob (numS (a*b)) W hW (λW' _ hW'=>zt7 a b oa ob k1 k4 W' hW');generalize numS a=x at hq hbo⊢;generalize numS b=y at hq hbo⊢;generalize numS (a*b)=r at hbo⊢;have HQ:=hid hq;have HBO:=hid hbo;have HW:=hid hw;clear hq hbo oa ob ha hb hi hj hij h k1 k4 hw;go_enter Tryz.func79,Tryz.ntmps79;go_wp2_with fail;refine(HQ.out _).mono ?_;rintro e w1 ⟨rfl,hB1⟩;go_wp2_with fail;refine(HBO.out _ (HW.out.below hB1)).mono ?_;rintro e w3 ⟨rfl,hb3⟩;have hB3:=hB1.trans (hb3.mono hB1.size);clear hb3;go_wp2_with fail;go_ret2;exact⟨rfl,hB3⟩
theorem zoj (a b:Rat) (hb0:b≠0) (i j:Nat) (hi:0<i) (hj:0<j) (hij:i+j<=300) (ha:sz a i) (hb:sz b j) (w:zA) (hw:Wd w):
 qJ 32 #[St (numS a),St (numS b)] w (.tuple #[St (numS (a/b)),.int .i64 0]):=by
 have oa:=zd0 hi (by omega) ha;have ob:=zd0 hj (by omega) hb;obtain⟨y,hy⟩:∃y:ByteArray,y=⟨(numS b).toArray⟩:=⟨_,rfl⟩;have hyz:(y.toList==[48])=false:=by
  rw[beq_eq_false_iff_ne,zfo hy];intro e;exact hb0 ((zpy b).1 e)
 by_cases h:zbb a/\zbb b
 ·obtain⟨h1,h2⟩:=h
  have e1:=zcv h1;have e2:=zcv h2;have hnz:b.num≠0:=λh=>hb0 (Rat.num_eq_zero.1 h);have hq:=λW hW=>zp5 a b h1 h2 (a.num*b.den) (a.den*b.num:Int) (numS (a/b)) W hW
   (λW=>ndiv a.num a.den b.num b.den e1.1 e1.2 e2.1 e2.2 W)
   (λW hW=>by
     have p1:=zbs e1.1 e2.2;have p3:=zbs e1.2 e2.1;have:=zd8 (a.num*b.den) (a.den*b.num:Int) (Int.mul_ne_zero (by have:=a.den_pos;omega) hnz) (by omega) (by omega) W hW;rw[<-zjx a b hb0] at this;exact this)
  rw[zgf hy] at hq⊢;generalize numS a=x at hq⊢;generalize numS (a/b)=r at hq⊢;have HQ:=hid hq;clear hq e1 e2 oa ob ha hb hi hj hij h1 h2 hy hnz hb0;go_enter Tryz.func32,Tryz.ntmps32;go_wp2_with fail;refine(HQ.out _ hw).mono ?_;rintro e w1 ⟨rfl,hB1⟩;go_wp2_with fail;go_ret2;exact⟨rfl,hB1⟩
 ·have hq:=λW=>zre a b h oa ob W
  have k1:digs (a.num*b.den)<=300:=zO (zcd hi ha.1 hb.2) hij;have k2:digs (b.num*a.den)<=300:=zO (zcd hj hb.1 ha.2) (by omega);have hbo:=λW hW=>zzb a b oa ob (numS (a/b)) W hW (λW' _ hW'=>z1o a b hb0 oa ob k1 k2 W' hW');rw[zgf hy] at hq hbo⊢;generalize numS a=x at hq hbo⊢;generalize numS (a/b)=r at hbo⊢;have HQ:=hid hq;have HBO:=hid hbo;have HW:=hid hw;clear hq hbo oa ob ha hb hi hj hij h k1 k2 hw hy hb0;go_enter Tryz.func32,Tryz.ntmps32;go_wp2_with fail;refine(HQ.out _).mono ?_;rintro e w1 ⟨rfl,hB1⟩;go_wp2_with fail;refine(HBO.out _ (HW.out.below hB1)).mono ?_;rintro e w3 ⟨rfl,hb3⟩;have hB3:=hB1.trans (hb3.mono hB1.size);clear hb3;go_wp2_with fail;go_ret2;exact⟨rfl,hB3⟩
end Go.Proofs.YtheinkfbiedidaaGreatDoor
namespace Go.Proofs.YtheinkfbiedidaaGreatDoor.Geo
structure Pt where
 x:Rat
 y:Rat
 deriving DecidableEq
def cmpR (a b:Rat):Int:=if a<b then-1 else if a=b then 0 else 1
theorem zaw (a b:Rat):(a<b/\cmpR a b= -1)\/(a=b/\cmpR a b=0)\/(b<a/\cmpR a b=1):=by
 unfold cmpR;by_cases h:a<b
 ·exact .inl ⟨h,by rw[if_pos h]⟩
 ·by_cases e:a=b
  ·exact .inr (.inl ⟨e,by rw[if_neg h,if_pos e]⟩)
  ·exact .inr (.inr ⟨by grind,by rw[if_neg h,if_neg e]⟩)
def ordP (p q:Pt):Int:=if cmpR p.x q.x≠0 then cmpR p.x q.x else cmpR p.y q.y
theorem zas (p q:Pt):((p.x<q.x\/p.x=q.x/\p.y<q.y)/\ordP p q= -1)\/(p=q/\ordP p q=0)\/((q.x<p.x\/p.x=q.x/\q.y<p.y)/\ordP p q=1):=by
 unfold ordP;obtain⟨a,b⟩:=p;obtain⟨c,d⟩:=q;simp only[Pt.mk.injEq];have:=zaw a c;have:=zaw b d;grind
def turn (a b c:Pt):Int:=cmpR ((b.x-a.x)*(c.y-a.y)) ((b.y-a.y)*(c.x-a.x))
def low (a b:Pt):Pt:=if ordP a b>0 then b else a
def high (a b:Pt):Pt:=if ordP a b>0 then a else b
end Go.Proofs.YtheinkfbiedidaaGreatDoor.Geo
namespace Go.Proofs.YtheinkfbiedidaaGreatDoor
open Go.RowKit Go.Shelf Lib Str Limb Geo
attribute [local go_sem] Oper.semAt_some
theorem z2v (x y s1 s2 t1 t2 u v:List UInt8) (z:Int) (NA:Hid (∀W:zA,qJ 112 #[St x] W (.tuple #[.agg #[.int .i64 0,.int .i64 0],.bool false])))
 (RA:Hid (qK 114 #[St x] (.tuple #[.agg #[St s1,St t1],.int .i64 0])))
 (RB:Hid (qK 114 #[St y] (.tuple #[.agg #[St s2,St t2],.int .i64 0])))
 (CR:Hid (qK 75 #[.agg #[St s1,St t1],.agg #[St s2,St t2]] (.tuple #[St u,St v,.int .i64 0])))
 (CM:Hid (∀W:zA,qJ 124 #[St u,St v] W (.tuple #[.int .i64 z,.int .i64 0])))
 (w:zA) (HW:Hid (Wd w)):
 qJ 81 #[St x,St y] w (.tuple #[.int .i64 z,.int .i64 0]):=by
 go_enter Tryz.func81,Tryz.ntmps81;go_wp2_with fail;refine(NA.out _).mono ?_;rintro e w1 ⟨rfl,hB1⟩;have hX:=hB1.alloc hB1.size (.cells #[.int .i64 0,.int .i64 0] 117);clear hB1;go_wp2_with fail;refine(RA.out _ (HW.out.below hX)).mono ?_;rintro e w5 ⟨rfl,hb5⟩;have hB5:=hX.trans (hb5.mono hX.size);have hB5':=hB5.alloc hB5.size (.cells #[.string ⟨s1.toArray⟩,.string ⟨t1.toArray⟩] 121);clear hb5;go_wp2_with fail;refine(RB.out _ (HW.out.below hB5')).mono ?_;rintro e w6 ⟨rfl,hb6⟩;have hz5:=hB5.size;have z6:w5.heap.size<w6.heap.size:=by have:=hb6.size;simp at this;omega
 have hB6:=hB5'.trans (hb6.mono hB5'.size);have A2:w6.heap[w5.heap.size]? =some (.cells #[.string ⟨s1.toArray⟩,.string ⟨t1.toArray⟩] 121 (0,0)):=(hb6.block _ (by simp)).trans (zG w5 _);have A20:w6.cell? ⟨w5.heap.size,0,none⟩=some (.string ⟨s1.toArray⟩):=by simp[World.cell?,A2]
 have A21:w6.cell? ⟨w5.heap.size,1,none⟩=some (.string ⟨t1.toArray⟩):=by simp[World.cell?,A2]
 have hB7:=hB6.alloc hB6.size (.cells #[.string ⟨s2.toArray⟩,.string ⟨t2.toArray⟩] 121);clear hb6 A2;go_wp2_with fail;refine(CR.out _ (HW.out.below hB7)).mono ?_;rintro e w8 ⟨rfl,hb8⟩;have hB8:=hB7.trans (hb8.mono hB7.size);clear hb8;go_wp2_with fail;refine(CM.out _).mono ?_;rintro e w9 ⟨rfl,hb9⟩;have hB9:=hB8.trans (hb9.mono hB8.size);clear hb9;go_wp2_with fail;go_ret2;exact⟨rfl,hB9⟩
theorem z2w (x y s1 s2 t1 t2 u v:List UInt8) (z n1 d1:Int) (NA:Hid (∀W:zA,qJ 112 #[St x] W (.tuple #[.agg #[.int .i64 n1,.int .i64 d1],.bool true]))) (NB:Hid (∀W:zA,qJ 112 #[St y] W (.tuple #[.agg #[.int .i64 0,.int .i64 0],.bool false])))
 (RA:Hid (qK 114 #[St x] (.tuple #[.agg #[St s1,St t1],.int .i64 0])))
 (RB:Hid (qK 114 #[St y] (.tuple #[.agg #[St s2,St t2],.int .i64 0])))
 (CR:Hid (qK 75 #[.agg #[St s1,St t1],.agg #[St s2,St t2]] (.tuple #[St u,St v,.int .i64 0])))
 (CM:Hid (∀W:zA,qJ 124 #[St u,St v] W (.tuple #[.int .i64 z,.int .i64 0])))
 (w:zA) (HW:Hid (Wd w)):
 qJ 81 #[St x,St y] w (.tuple #[.int .i64 z,.int .i64 0]):=by
 go_enter Tryz.func81,Tryz.ntmps81;go_wp2_with fail;refine(NA.out _).mono ?_;rintro e w1 ⟨rfl,hB1⟩;have hB1':=hB1.alloc hB1.size (.cells #[.int .i64 n1,.int .i64 d1] 117);clear hB1;go_wp2_with fail;refine(NB.out _).mono ?_;rintro e w2 ⟨rfl,hb2⟩;have hB2:=hB1'.trans (hb2.mono hB1'.size);have hX:=hB2.alloc hB2.size (.cells #[.int .i64 0,.int .i64 0] 117);clear hb2 hB1' hB2;go_wp2_with fail;refine(RA.out _ (HW.out.below hX)).mono ?_;rintro e w5 ⟨rfl,hb5⟩;have hB5:=hX.trans (hb5.mono hX.size);have hB5':=hB5.alloc hB5.size (.cells #[.string ⟨s1.toArray⟩,.string ⟨t1.toArray⟩] 121);clear hb5;go_wp2_with fail;refine(RB.out _ (HW.out.below hB5')).mono ?_;rintro e w6 ⟨rfl,hb6⟩;have hz5:=hB5.size;have z6:w5.heap.size<w6.heap.size:=by have:=hb6.size;simp at this;omega
 have hB6:=hB5'.trans (hb6.mono hB5'.size);have A2:w6.heap[w5.heap.size]? =some (.cells #[.string ⟨s1.toArray⟩,.string ⟨t1.toArray⟩] 121 (0,0)):=(hb6.block _ (by simp)).trans (zG w5 _);have A20:w6.cell? ⟨w5.heap.size,0,none⟩=some (.string ⟨s1.toArray⟩):=by simp[World.cell?,A2]
 have A21:w6.cell? ⟨w5.heap.size,1,none⟩=some (.string ⟨t1.toArray⟩):=by simp[World.cell?,A2]
 have hB7:=hB6.alloc hB6.size (.cells #[.string ⟨s2.toArray⟩,.string ⟨t2.toArray⟩] 121);clear hb6 A2;go_wp2_with fail;refine(CR.out _ (HW.out.below hB7)).mono ?_;rintro e w8 ⟨rfl,hb8⟩;have hB8:=hB7.trans (hb8.mono hB7.size);clear hb8;go_wp2_with fail;refine(CM.out _).mono ?_;rintro e w9 ⟨rfl,hb9⟩;have hB9:=hB8.trans (hb9.mono hB8.size);clear hb9;go_wp2_with fail;go_ret2;exact⟨rfl,hB9⟩
theorem zim (a b:Rat):cmpZ (a.num*b.den) (b.num*a.den)=cmpR a b:=by
 have h1:=Rat.lt_iff a b;have h2:=Rat.lt_iff b a;unfold cmpZ;rcases zaw a b with⟨h,e⟩|⟨h,e⟩|⟨h,e⟩
 ·rw[e,if_pos (h1.1 h)]
 ·subst h;rw[e,if_neg (by omega),if_neg (by omega)]
 ·rw[e,if_neg (by have:=h2.1 h;omega),if_pos (h2.1 h)]
theorem z2x (x y:List UInt8) (n1 d1 n2 d2 p q z:Int) (NA:Hid (∀W:zA,qJ 112 #[St x] W (.tuple #[.agg #[.int .i64 n1,.int .i64 d1],.bool true])))
 (NB:Hid (∀W:zA,qJ 112 #[St y] W (.tuple #[.agg #[.int .i64 n2,.int .i64 d2],.bool true])))
 (v1:IntKind.i64.wrap (n1*d2)=p) (v2:IntKind.i64.wrap (n2*d1)=q)
 (CM:Hid (∀W:zA,zC zF 123 #[.int .i64 p,.int .i64 q] W λe w'=>e=.returned (.int .i64 z)/\w'=W)) (w:zA):
 qJ 81 #[St x,St y] w (.tuple #[.int .i64 z,.int .i64 0]):=by
 go_enter Tryz.func81,Tryz.ntmps81;go_wp2_with fail;refine(NA.out _).mono ?_;rintro e w1 ⟨rfl,hB1⟩;have hB1':=hB1.alloc hB1.size (.cells #[.int .i64 n1,.int .i64 d1] 117);go_wp2_with fail;refine(NB.out _).mono ?_;rintro e w2 ⟨rfl,hb2⟩;have hz1:=hB1.size;have z2:w1.heap.size<w2.heap.size:=by have:=hb2.size;simp at this;omega
 have hB2:=hB1'.trans (hb2.mono hB1'.size);have A2:w2.heap[w1.heap.size]? =some (.cells #[.int .i64 n1,.int .i64 d1] 117 (0,0)):=(hb2.block _ (by simp)).trans (zG w1 _);have A20:w2.cell? ⟨w1.heap.size,0,none⟩=some (.int .i64 n1):=by simp[World.cell?,A2]
 have A21:w2.cell? ⟨w1.heap.size,1,none⟩=some (.int .i64 d1):=by simp[World.cell?,A2]
 have hX:=hB2.alloc hB2.size (.cells #[.int .i64 n2,.int .i64 d2] 117);clear hb2 A2 hB1 hB1' hB2;go_wp2_with fail;refine(CM.out _).mono ?_;rintro e w3 ⟨rfl,rfl⟩;go_wp2_with fail;go_ret2;exact⟨rfl,hX⟩
theorem zgq (a b:Rat) (i j:Nat) (hi:0<i) (hj:0<j) (hij:i+j<=300) (ha:sz a i) (hb:sz b j) (w:zA) (hw:Wd w):
 qJ 81 #[St (numS a),St (numS b)] w (.tuple #[.int .i64 (cmpR a b),.int .i64 0]):=by
 have oa:=zd0 hi (by omega) ha;have ob:=zd0 hj (by omega) hb;have k1:digs (a.num*b.den)<=300:=zO (zcd hi ha.1 hb.2) hij;have k2:digs (b.num*a.den)<=300:=zO (zcd hj hb.1 ha.2) (by omega);have RA:=hid λW hW=>zek a oa W hW;have RB:=hid λW hW=>zek b ob W hW;have cr:=λW hW=>zhc a.num b.num a.den b.den oa.1 ob.1 oa.2 ob.2 k1 W hW;rw[zcf k2,zcg k2] at cr;have cm:=λW=>zsx (a.num*b.den) (b.num*a.den) k1 k2 W;rw[zim] at cm;by_cases h1:zbb a
 ·by_cases h2:zbb b
  ·have e1:=zcv h1
   have e2:=zcv h2;have p1:=zbs e1.1 e2.2;have p2:=zbs e2.1 e1.2
   exact z2x _ _ a.num a.den b.num b.den _ _ _ (hid λW=>zbm a h1 W) (hid λW=>zbm b h2 W) (zI _ (by omega)) (zI _ (by omega))
    (hid λW=>by rw[<-zim];exact Tryz.cmp_Compare_int _ _ W) w
  ·exact z2w _ _ _ _ _ _ _ _ _ a.num a.den (hid λW=>zbm a h1 W) (hid λW=>zb5 b h2 (zO ob.1 (by omega)) (zO ob.2 (by omega)) W) RA RB (hid cr) (hid cm) w (hid hw)
 ·exact z2v _ _ _ _ _ _ _ _ _ (hid λW=>zb5 a h1 (zO oa.1 (by omega)) (zO oa.2 (by omega)) W) RA RB (hid cr) (hid cm) w (hid hw)
theorem zk5 (q:Rat) (h:okQ q) (w:zA) (hw:Wd w):
 qJ 144 #[St (numS q)] w (.tuple #[St (zE q.num),St (zD q.den),.int .i64 0]):=by
 have hc:=zek q h w hw;generalize numS q=s at hc⊢;generalize zE q.num=u at hc⊢;generalize zD q.den=v at hc⊢;have HC:=hid hc;clear hc h;go_enter Tryz.func144,Tryz.ntmps144;go_wp2_with fail;refine HC.out.mono ?_;rintro e w1 ⟨rfl,hB⟩;go_wp2_with fail
 (refine wp_region_quiet_lit (by kernel_rfl) (by kernel_rfl) (WQ.out ?_);(repeat(first|(apply WQ.read (by rfl);(focus(rintro W ⟨n,rfl⟩;go_simp;try with_reducible rfl));try simp only[zzQ])|(apply WQ.skip (by rfl);try simp only[zzQ])));refine WQ.nil ?_;rintro _ ⟨nq,rfl⟩)
 go_wp2_with fail;go_ret3;exact⟨rfl,zao (hB.alloc hB.size _) nq⟩
end Go.Proofs.YtheinkfbiedidaaGreatDoor
