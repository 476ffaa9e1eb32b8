/- rational.read, Check, Parts, at a numeral. -/
import Derived.Test.YtccijmidbdapaaaGreatDoorJ09
set_option maxRecDepth 100000
set_option maxHeartbeats 8000000
open Go renaming World → zA, Calls → zC
open Go.Lib renaming decDigits → zD, itoa → zE
open Go.Proofs.Tryz renaming prog → zF
open Go.World renaming alloc_heap_new → zG, size_alloc → zH
open Go.IntWalk renaming i64_in → zI
open Go.RowKit.Below renaming refl → zM
open Nat renaming le_refl → zN, le_trans → zO
open List renaming size_toArray → zZ
namespace Go.Proofs.YtccijmidbdapaaaGreatDoor
open Go.RowKit Go.Shelf Lib Str Limb
attribute [local go_sem] Oper.semAt_some
def okQ (q:Rat):Prop:=digs q.num<=300/\(zD q.den).length<=300
theorem zu2 (q:Rat) (h:zbb q) (w:zA) (hw:Wd w):
 qJ 31 #[St (numS q)] w (.tuple #[.agg #[St (zE q.num),St (zD q.den)],.int .i64 0]):=by
 have hc:=λW hW=>zoh q (zO h.1 (by omega)) (zO h.2 (by omega)) W hW
 have hn:=λW=>zbm q h W
 generalize numS q=s at hc hn⊢
 generalize zE q.num=sn at hc⊢
 generalize zD q.den=sd at hc⊢
 generalize q.num=n at hn
 generalize q.den=d at hn
 have HC:=hid hc;have HN:=hid hn;have HW:=hid hw
 clear hc hn hw h
 go_enter Tryz.func31,Tryz.ntmps31
 go_wp2_with fail
 refine(HC.out _ (HW.out.below ((zM _ w).alloc (zN _) _))).mono ?_
 rintro e w1 ⟨rfl,hb1⟩
 have hB1:qL w w1:=((zM _ w).alloc (zN _) _).trans (hb1.mono (by simp))
 have z1:w.heap.size<w1.heap.size:=by have:=hb1.size;simp at this;omega
 have R1:w1.heap[w.heap.size]? =some (.cells #[St [],St []] 69 (0,0)):=(hb1.block _ (by simp)).trans (zG w _)
 clear hb1
 go_wp2_with fail
 refine(HN.out _).mono ?_
 rintro e w2 ⟨rfl,hb2⟩
 have z2:w1.heap.size<w2.heap.size:=by have:=hb2.size;simp at this;omega
 have hB2:qL w w2:=(hB1.alloc hB1.size _).trans (hb2.mono (by simp;omega))
 have R2:w2.heap[w.heap.size]? =some (.cells #[St [],St []] 69 (0,0)):=(hb2.block _ (by simp;omega)).trans ((Below.heap_alloc _ _ _ (by omega)).trans R1)
 have P2:w2.heap[w1.heap.size]? =some (.cells #[St sn,St sd] 69 (0,0)):=(hb2.block _ (by simp)).trans (zG w1 _)
 have P20:w2.cell? ⟨w1.heap.size,0,none⟩=some (St sn):=by simp[World.cell?,P2]
 have P21:w2.cell? ⟨w1.heap.size,1,none⟩=some (St sd):=by simp[World.cell?,P2]
 have R20:w2.cell? ⟨w.heap.size,0,none⟩=some (St []):=by simp[World.cell?,R2]
 have R21:w2.cell? ⟨w.heap.size,1,none⟩=some (St []):=by simp[World.cell?,R2]
 have F20:w2.frozen? ⟨w.heap.size,0,none⟩=false:=by simp[World.frozen?,R2]
 have F21:w2.frozen? ⟨w.heap.size,1,none⟩=false:=by simp[World.frozen?,R2]
 have z3:w.heap.size<w2.heap.size:=by omega
 clear R1 hB1 hb2 P2
 go_wp2_with fail
 refine bodyPost_ret (v:=.tuple #[.agg #[St sn,St sd],.int .i64 0]) (by simp[results,Tryz.results31,go_sem,R20,R21,z3]) rfl ⟨rfl,?_⟩
 repeat(first|exact hB2|exact zM _ _|refine Below.alloc ?_ (by simp[World.setCell]<;>omega) _|refine zao ?_ _|refine Below.setCell ?_ (by simp) _)
theorem zp1 (q:Rat) (h:¬zbb q) (hk:okQ q) (hd:q.den=1) (hl:digs q.num<=800000) (hl2:(zD q.den).length<=800000) (w:zA) (hw:Wd w):
 qJ 31 #[St (numS q)] w (.tuple #[.agg #[St (zE q.num),St (zD q.den)],.int .i64 0]):=by
 have hc:=λW hW=>zoh q hl hl2 W hW
 have hn:=λW=>zb5 q h hl hl2 W
 obtain⟨sn,hsn⟩:∃s:ByteArray,s=⟨(zE q.num).toArray⟩:=⟨_,rfl⟩
 obtain⟨sd,hsd⟩:∃s:ByteArray,s=⟨(zD q.den).toArray⟩:=⟨_,rfl⟩
 obtain⟨own,hown⟩:∃s:ByteArray,s=⟨(zD q.num.natAbs).toArray⟩:=⟨_,rfl⟩
 have htp:∀W:zA,zC zF 77 #[.string sn,.string ⟨#[45]⟩] W λe w'=>e=.returned (.string own)/\w'=W:=by
  intro W
  have:=Tryz.strings_TrimPrefix sn ⟨#[45]⟩ W
  rw[show sn.data.toList=zE q.num from by rw[hsn],show(⟨#[45]⟩:ByteArray).data.toList=[45] from rfl,zbi] at this
  rw[hown];exact this
 have l1:own.size=digs q.num:=by rw[hown];exact zZ
 have l2:sd.size=(zD q.den).length:=by rw[hsd];exact zZ
 have s1:¬(300:Int)<own.size:=by have:=hk.1;omega
 have s2:¬(300:Int)<sd.size:=by have:=hk.2;omega
 have s3:(sd.toList==[49])=true:=by rw[zfo hsd,hd,zae (by omega)];rfl
 have hc:∀W,Wd W->qJ 76 #[St (numS q)] W (.tuple #[.agg #[.string sn,.string sd],.bool true]):=by rw[hsn,hsd];exact hc
 rw[show St (zE q.num)=.string sn from by rw[hsn],show St (zD q.den)=.string sd from by rw[hsd]]
 generalize numS q=s at hc hn⊢
 have HC:=hid hc;have HN:=hid hn;have HW:=hid hw;have TP:=hid htp
 clear hc hn hw h hsn hsd hown htp l1 l2 hl hl2 hk hd
 go_enter Tryz.func31,Tryz.ntmps31
 go_wp2_with fail
 refine(HC.out _ (HW.out.below ((zM _ w).alloc (zN _) _))).mono ?_
 rintro e w1 ⟨rfl,hb1⟩
 have hB1:qL w w1:=((zM _ w).alloc (zN _) _).trans (hb1.mono (by simp))
 have z1:w.heap.size<w1.heap.size:=by have:=hb1.size;simp at this;omega
 have R1:w1.heap[w.heap.size]? =some (.cells #[St [],St []] 69 (0,0)):=(hb1.block _ (by simp)).trans (zG w _)
 clear hb1
 go_wp2_with fail
 refine(HN.out _).mono ?_
 rintro e w2 ⟨rfl,hb2⟩
 have z2:w1.heap.size<w2.heap.size:=by have:=hb2.size;simp at this;omega
 have hB2:qL w w2:=(hB1.alloc hB1.size _).trans (hb2.mono (by simp;omega))
 have R2:w2.heap[w.heap.size]? =some (.cells #[St [],St []] 69 (0,0)):=(hb2.block _ (by simp;omega)).trans ((Below.heap_alloc _ _ _ (by omega)).trans R1)
 have P2:w2.heap[w1.heap.size]? =some (.cells #[.string sn,.string sd] 69 (0,0)):=(hb2.block _ (by simp)).trans (zG w1 _)
 have P20:w2.cell? ⟨w1.heap.size,0,none⟩=some (.string sn):=by simp[World.cell?,P2]
 have P21:w2.cell? ⟨w1.heap.size,1,none⟩=some (.string sd):=by simp[World.cell?,P2]
 have R20:w2.cell? ⟨w.heap.size,0,none⟩=some (St []):=by simp[World.cell?,R2]
 have R21:w2.cell? ⟨w.heap.size,1,none⟩=some (St []):=by simp[World.cell?,R2]
 have F20:w2.frozen? ⟨w.heap.size,0,none⟩=false:=by simp[World.frozen?,R2]
 have F21:w2.frozen? ⟨w.heap.size,1,none⟩=false:=by simp[World.frozen?,R2]
 have z3:w.heap.size<w2.heap.size:=by omega
 clear R1 hB1 hb2
 go_wp2_with fail
 refine(TP.out _).mono ?_
 rintro e w3 ⟨rfl,rfl⟩
 go_wp2_with fail
 refine bodyPost_ret (v:=.tuple #[.agg #[.string sn,.string sd],.int .i64 0]) (by simp[results,Tryz.results31,go_sem,R20,R21,z3]) rfl ⟨rfl,?_⟩
 repeat(first|exact hB2|exact zM _ _|refine Below.alloc ?_ (by simp[World.setCell]<;>omega) _|refine zao ?_ _|refine Below.setCell ?_ (by simp) _)
theorem zoi (q:Rat) (h:¬zbb q) (hk:okQ q) (hd:q.den≠1) (hl:digs q.num<=800000) (hl2:(zD q.den).length<=800000) (w:zA) (hw:Wd w):
 qJ 31 #[St (numS q)] w (.tuple #[.agg #[St (zE q.num),St (zD q.den)],.int .i64 0]):=by
 have hc:=λW hW=>zoh q hl hl2 W hW
 have hn:=λW=>zb5 q h hl hl2 W
 obtain⟨sn,hsn⟩:∃s:ByteArray,s=⟨(zE q.num).toArray⟩:=⟨_,rfl⟩
 obtain⟨sd,hsd⟩:∃s:ByteArray,s=⟨(zD q.den).toArray⟩:=⟨_,rfl⟩
 obtain⟨own,hown⟩:∃s:ByteArray,s=⟨(zD q.num.natAbs).toArray⟩:=⟨_,rfl⟩
 have htp:∀W:zA,zC zF 77 #[.string sn,.string ⟨#[45]⟩] W λe w'=>e=.returned (.string own)/\w'=W:=by
  intro W
  have:=Tryz.strings_TrimPrefix sn ⟨#[45]⟩ W
  rw[show sn.data.toList=zE q.num from by rw[hsn],show(⟨#[45]⟩:ByteArray).data.toList=[45] from rfl,zbi] at this
  rw[hown];exact this
 have l1:own.size=digs q.num:=by rw[hown];exact zZ
 have l2:sd.size=(zD q.den).length:=by rw[hsd];exact zZ
 have s1:¬(300:Int)<own.size:=by have:=hk.1;omega
 have s2:¬(300:Int)<sd.size:=by have:=hk.2;omega
 have s3:(sd.toList==[49])=false:=zhl hsd 1 (by omega) hd
 have hg:qK 70 #[.string sn,.string sd] (.tuple #[St [49],.int .i64 0]):=by
  intro W hW
  have h2:digs (q.den:Int)<=300:=hk.2
  have:=ztw q.num q.den hk.1 h2 W hW
  rw[show(Int.gcd q.num (q.den:Int):Int)=1 from by have:=q.reduced;unfold Int.gcd;rw[Int.natAbs_natCast];unfold Nat.Coprime at this;rw[this];rfl,zmn,Str.zad q.den] at this
  rw[hsn,hsd];exact this
 have hc:∀W,Wd W->qJ 76 #[St (numS q)] W (.tuple #[.agg #[.string sn,.string sd],.bool true]):=by rw[hsn,hsd];exact hc
 rw[show St (zE q.num)=.string sn from by rw[hsn],show St (zD q.den)=.string sd from by rw[hsd]]
 generalize numS q=s at hc hn⊢
 have HC:=hid hc;have HN:=hid hn;have HW:=hid hw;have TP:=hid htp;have GC:=hid hg
 clear hc hn hw h hsn hsd hown htp hg l1 l2 hl hl2 hk hd
 go_enter Tryz.func31,Tryz.ntmps31
 go_wp2_with fail
 refine(HC.out _ (HW.out.below ((zM _ w).alloc (zN _) _))).mono ?_
 rintro e w1 ⟨rfl,hb1⟩
 have hB1:qL w w1:=((zM _ w).alloc (zN _) _).trans (hb1.mono (by simp))
 have z1:w.heap.size<w1.heap.size:=by have:=hb1.size;simp at this;omega
 have R1:w1.heap[w.heap.size]? =some (.cells #[St [],St []] 69 (0,0)):=(hb1.block _ (by simp)).trans (zG w _)
 clear hb1
 go_wp2_with fail
 refine(HN.out _).mono ?_
 rintro e w2 ⟨rfl,hb2⟩
 have z2:w1.heap.size<w2.heap.size:=by have:=hb2.size;simp at this;omega
 have hB2:qL w w2:=(hB1.alloc hB1.size _).trans (hb2.mono (by simp;omega))
 have R2:w2.heap[w.heap.size]? =some (.cells #[St [],St []] 69 (0,0)):=(hb2.block _ (by simp;omega)).trans ((Below.heap_alloc _ _ _ (by omega)).trans R1)
 have P2:w2.heap[w1.heap.size]? =some (.cells #[.string sn,.string sd] 69 (0,0)):=(hb2.block _ (by simp)).trans (zG w1 _)
 have P20:w2.cell? ⟨w1.heap.size,0,none⟩=some (.string sn):=by simp[World.cell?,P2]
 have P21:w2.cell? ⟨w1.heap.size,1,none⟩=some (.string sd):=by simp[World.cell?,P2]
 have R20:w2.cell? ⟨w.heap.size,0,none⟩=some (St []):=by simp[World.cell?,R2]
 have R21:w2.cell? ⟨w.heap.size,1,none⟩=some (St []):=by simp[World.cell?,R2]
 have F20:w2.frozen? ⟨w.heap.size,0,none⟩=false:=by simp[World.frozen?,R2]
 have F21:w2.frozen? ⟨w.heap.size,1,none⟩=false:=by simp[World.frozen?,R2]
 have z3:w.heap.size<w2.heap.size:=by omega
 clear R1 hB1 hb2
 go_wp2_with fail
 refine(TP.out _).mono ?_
 rintro e w3 ⟨rfl,rfl⟩
 go_wp2_with fail
 have hb3':qL w (w2.alloc (.cells #[.int .i64 0,.int .i64 0] 65)):=hB2.alloc hB2.size _
 refine(GC.out _ (HW.out.below hb3')).mono ?_
 rintro e w3 ⟨rfl,hb3⟩
 have z4:w2.heap.size<w3.heap.size:=by have:=hb3.size;simp at this;omega
 have hB3:=hb3'.trans (hb3.mono (by simp;omega))
 have R3:w3.heap[w.heap.size]? =some (.cells #[St [],St []] 69 (0,0)):=(hb3.block _ (by simp;omega)).trans ((Below.heap_alloc _ _ _ (by omega)).trans R2)
 have P3:w3.heap[w1.heap.size]? =some (.cells #[.string sn,.string sd] 69 (0,0)):=(hb3.block _ (by simp;omega)).trans ((Below.heap_alloc _ _ _ (by omega)).trans P2)
 clear P20 P21 R20 R21 F20 F21
 have P20:w3.cell? ⟨w1.heap.size,0,none⟩=some (.string sn):=by simp[World.cell?,P3]
 have P21:w3.cell? ⟨w1.heap.size,1,none⟩=some (.string sd):=by simp[World.cell?,P3]
 have R20:w3.cell? ⟨w.heap.size,0,none⟩=some (St []):=by simp[World.cell?,R3]
 have R21:w3.cell? ⟨w.heap.size,1,none⟩=some (St []):=by simp[World.cell?,R3]
 have F20:w3.frozen? ⟨w.heap.size,0,none⟩=false:=by simp[World.frozen?,R3]
 have F21:w3.frozen? ⟨w.heap.size,1,none⟩=false:=by simp[World.frozen?,R3]
 have z5:w.heap.size<w3.heap.size:=by omega
 clear R2 P2 R3 P3 hb3 hb3' hB2
 go_wp2_with fail
 refine bodyPost_ret (v:=.tuple #[.agg #[.string sn,.string sd],.int .i64 0]) (by simp[results,Tryz.results31,go_sem,R20,R21]) rfl ⟨rfl,?_⟩
 repeat(first|exact hB3|exact zM _ _|refine Below.alloc ?_ (by simp[World.setCell,World.drewN]<;>omega) _|refine zao ?_ _|refine Below.setCell ?_ (by simp) _)
theorem zek (q:Rat) (h:okQ q) (w:zA) (hw:Wd w):
 qJ 31 #[St (numS q)] w (.tuple #[.agg #[St (zE q.num),St (zD q.den)],.int .i64 0]):=by
 by_cases hs:zbb q
 ·exact zu2 q hs w hw
 ·by_cases hd:q.den=1
  ·exact zp1 q hs h hd (zO h.1 (by omega)) (zO h.2 (by omega)) w hw
  ·exact zoi q hs h hd (zO h.1 (by omega)) (zO h.2 (by omega)) w hw
theorem zfj (q:Rat) (h:okQ q) (w:zA) (hw:Wd w):
 qJ 27 #[St (numS q)] w (.int .i64 0):=by
 have hc:=λW hW=>zek q h W hW
 generalize numS q=s at hc⊢
 have HC:=hid hc;clear hc h
 go_enter Tryz.func27,Tryz.ntmps27
 go_wp2_with fail
 refine(HC.out _ hw).mono ?_
 rintro e w1 ⟨rfl,hb1⟩
 go_wp2_with fail
 go_ret
 exact⟨rfl,hb1.alloc hb1.size _⟩
theorem zww (a:List UInt8):Value.string ((⟨#[45]⟩:ByteArray)++(⟨a.toArray⟩:ByteArray))=St (45::a):=by
 congr 1
theorem zk3 (x:Int) (hx:digs x<=800000) (w:zA):
 qJ 69 #[St (zE x)] w (St (zE (-x))):=by
 obtain⟨s,hs⟩:∃s:ByteArray,s=⟨(zE x).toArray⟩:=⟨_,rfl⟩
 obtain⟨own,hown⟩:∃s:ByteArray,s=⟨(zD x.natAbs).toArray⟩:=⟨_,rfl⟩
 have hcp:∀W:zA,zC zF 112 #[.string s,.string ⟨#[45]⟩] W λe w'=>e=.returned (.tuple #[.string own,.bool (decide (x<0))])/\w'=W:=by
  intro W
  have:=Tryz.strings_CutPrefix s ⟨#[45]⟩ W
  rw[show s.data.toList=zE x from by rw[hs],show(⟨#[45]⟩:ByteArray).data.toList=[45] from rfl,zbi,zdx] at this
  rw[hown];exact this
 have z:s.size<=800001:=by
  rw[hs];show(zE x).toArray.size<=_
  have:=za7 x
  simp;omega
 have HCP:=hid hcp
 rw[show St (zE x)=.string s from by rw[hs]]
 rcases Int.lt_trichotomy x 0 with hn|h0|hp
 ·have ho:St (zE (-x))=.string own:=by rw[hown,show-x=((x.natAbs:Nat):Int) from by omega,Str.zad]
  have ht:(s.toList==[48])=false:=by
   rw[beq_eq_false_iff_ne,zfo hs];intro e
   have:=zdo (e.trans zb9.symm);omega
  rw[ho]
  rw[decide_eq_true hn] at hcp
  have HCP:=hid hcp
  clear ho hs hown hcp hn hx
  go_enter Tryz.func69,Tryz.ntmps69
  go_wp2_with fail
  refine(HCP.out _).mono ?_
  rintro e w1 ⟨rfl,rfl⟩
  go_wp2_with fail
  go_ret
  exact⟨rfl,zM _ _⟩
 ·subst h0
  have ht:(s.toList==[48])=true:=by rw[zfo hs,zb9];rfl
  rw[show-(0:Int)=0 from rfl,show St (zE 0)=.string s from by rw[hs]]
  clear hs hown hcp hx
  go_enter Tryz.func69,Tryz.ntmps69
  go_wp2_with fail
  go_ret
  exact⟨rfl,zM _ _⟩
 ·have ho:St (zE (-x))=.string ((⟨#[45]⟩:ByteArray)++s):=by
   rw[hs,zww,show x=((x.natAbs:Nat):Int) from by omega,Str.zga _ (by omega),Str.zad]
  have ht:(s.toList==[48])=false:=by
   rw[beq_eq_false_iff_ne,zfo hs];intro e
   have:=zdo (e.trans zb9.symm);omega
  rw[ho]
  rw[decide_eq_false (by omega)] at hcp
  have HCP:=hid hcp
  clear ho hs hown hcp hp hx
  go_enter Tryz.func69,Tryz.ntmps69
  go_wp2_with fail
  refine(HCP.out _).mono ?_
  rintro e w1 ⟨rfl,rfl⟩
  go_wp2_with fail
  go_ret
  exact⟨rfl,zM _ _⟩
theorem zsy (a b sg:ByteArray) (hp:∀W:zA,zC zF 68 #[.string b,.string ⟨#[45]⟩] W λe w'=>e=.returned (.bool false)/\w'=W)
 (gc:qK 70 #[.string a,.string b] (.tuple #[.string sg,.int .i64 0]))
 (g1:(sg.toList==[49])=true)
 (d1:(b.toList==[49])=true)
 (w:zA) (hw:Wd w):
 qJ 26 #[.string a,.string b] w (.tuple #[.string a,.int .i64 0]):=by
 have HP:=hid hp;have GC:=hid gc;have HW:=hid hw
 clear hp gc hw
 have hB0:=zM w.heap.size w
 go_enter Tryz.func26,Tryz.ntmps26
 go_wp2_with fail
 refine(HP.out _).mono ?_
 rintro e w0 ⟨rfl,rfl⟩
 go_wp2_with fail
 refine(GC.out _ (HW.out.below hB0)).mono ?_
 rintro e w1 ⟨rfl,hb1⟩
 have hB1:=hB0.trans (hb1.mono hB0.size)
 clear hb1
 go_wp2_with fail
 go_ret2
 exact⟨rfl,hB1⟩
theorem zsz (a b sg:ByteArray) (hp:∀W:zA,zC zF 68 #[.string b,.string ⟨#[45]⟩] W λe w'=>e=.returned (.bool false)/\w'=W)
 (gc:qK 70 #[.string a,.string b] (.tuple #[.string sg,.int .i64 0]))
 (g1:(sg.toList==[49])=true)
 (d1:(b.toList==[49])=false) (z1:a.size<=400) (z2:b.size<=400)
 (w:zA) (hw:Wd w):
 qJ 26 #[.string a,.string b] w (.tuple #[.string (a++⟨#[47]⟩++b),.int .i64 0]):=by
 have HP:=hid hp;have GC:=hid gc;have HW:=hid hw
 clear hp gc hw
 have hB0:=zM w.heap.size w
 go_enter Tryz.func26,Tryz.ntmps26
 go_wp2_with fail
 refine(HP.out _).mono ?_
 rintro e w0 ⟨rfl,rfl⟩
 go_wp2_with fail
 refine(GC.out _ (HW.out.below hB0)).mono ?_
 rintro e w1 ⟨rfl,hb1⟩
 have hB1:=hB0.trans (hb1.mono hB0.size)
 clear hb1
 go_wp2_with fail
 go_ret2
 exact⟨rfl,hB1⟩
theorem zs0 (a b sg sqn sqd:ByteArray) (hp:∀W:zA,zC zF 68 #[.string b,.string ⟨#[45]⟩] W λe w'=>e=.returned (.bool false)/\w'=W)
 (gc:qK 70 #[.string a,.string b] (.tuple #[.string sg,.int .i64 0]))
 (g1:(sg.toList==[49])=false)
 (dvn:qK 71 #[.string a,.string sg] (.tuple #[.string sqn,St [48],.int .i64 0]))
 (dvd:qK 71 #[.string b,.string sg] (.tuple #[.string sqd,St [48],.int .i64 0]))
 (d1:(sqd.toList==[49])=true)
 (w:zA) (hw:Wd w):
 qJ 26 #[.string a,.string b] w (.tuple #[.string sqn,.int .i64 0]):=by
 have HP:=hid hp;have GC:=hid gc;have HW:=hid hw;have DVN:=hid dvn;have DVD:=hid dvd
 clear hp gc dvn dvd hw
 have hB0:=zM w.heap.size w
 go_enter Tryz.func26,Tryz.ntmps26
 go_wp2_with fail
 refine(HP.out _).mono ?_
 rintro e w0 ⟨rfl,rfl⟩
 go_wp2_with fail
 refine(GC.out _ (HW.out.below hB0)).mono ?_
 rintro e w1 ⟨rfl,hb1⟩
 have hB1:=hB0.trans (hb1.mono hB0.size)
 clear hb1
 go_wp2_with fail
 refine(DVN.out _ (HW.out.below hB1)).mono ?_
 rintro e w2 ⟨rfl,hb2⟩
 have hB2:=hB1.trans (hb2.mono hB1.size)
 clear hb2
 go_wp2_with fail
 refine(DVD.out _ (HW.out.below hB2)).mono ?_
 rintro e w3 ⟨rfl,hb3⟩
 have hB3:=hB2.trans (hb3.mono hB2.size)
 clear hb3
 go_wp2_with fail
 go_ret2
 exact⟨rfl,hB3⟩
theorem zs1 (a b sg sqn sqd:ByteArray) (hp:∀W:zA,zC zF 68 #[.string b,.string ⟨#[45]⟩] W λe w'=>e=.returned (.bool false)/\w'=W)
 (gc:qK 70 #[.string a,.string b] (.tuple #[.string sg,.int .i64 0]))
 (g1:(sg.toList==[49])=false)
 (dvn:qK 71 #[.string a,.string sg] (.tuple #[.string sqn,St [48],.int .i64 0]))
 (dvd:qK 71 #[.string b,.string sg] (.tuple #[.string sqd,St [48],.int .i64 0]))
 (d1:(sqd.toList==[49])=false) (z1:sqn.size<=400) (z2:sqd.size<=400)
 (w:zA) (hw:Wd w):
 qJ 26 #[.string a,.string b] w (.tuple #[.string (sqn++⟨#[47]⟩++sqd),.int .i64 0]):=by
 have HP:=hid hp;have GC:=hid gc;have HW:=hid hw;have DVN:=hid dvn;have DVD:=hid dvd
 clear hp gc dvn dvd hw
 have hB0:=zM w.heap.size w
 go_enter Tryz.func26,Tryz.ntmps26
 go_wp2_with fail
 refine(HP.out _).mono ?_
 rintro e w0 ⟨rfl,rfl⟩
 go_wp2_with fail
 refine(GC.out _ (HW.out.below hB0)).mono ?_
 rintro e w1 ⟨rfl,hb1⟩
 have hB1:=hB0.trans (hb1.mono hB0.size)
 clear hb1
 go_wp2_with fail
 refine(DVN.out _ (HW.out.below hB1)).mono ?_
 rintro e w2 ⟨rfl,hb2⟩
 have hB2:=hB1.trans (hb2.mono hB1.size)
 clear hb2
 go_wp2_with fail
 refine(DVD.out _ (HW.out.below hB2)).mono ?_
 rintro e w3 ⟨rfl,hb3⟩
 have hB3:=hB2.trans (hb3.mono hB2.size)
 clear hb3
 go_wp2_with fail
 go_ret2
 exact⟨rfl,hB3⟩
theorem zs2 (a b sx sy sg:ByteArray) (hp:∀W:zA,zC zF 68 #[.string b,.string ⟨#[45]⟩] W λe w'=>e=.returned (.bool true)/\w'=W)
 (opx:qK 69 #[.string a] (.string sx))
 (opy:qK 69 #[.string b] (.string sy))
 (gc:qK 70 #[.string sx,.string sy] (.tuple #[.string sg,.int .i64 0]))
 (g1:(sg.toList==[49])=true)
 (d1:(sy.toList==[49])=true)
 (w:zA) (hw:Wd w):
 qJ 26 #[.string a,.string b] w (.tuple #[.string sx,.int .i64 0]):=by
 have HP:=hid hp;have GC:=hid gc;have HW:=hid hw;have OPX:=hid opx;have OPY:=hid opy
 clear hp gc opx opy hw
 have hB0:=zM w.heap.size w
 go_enter Tryz.func26,Tryz.ntmps26
 go_wp2_with fail
 refine(HP.out _).mono ?_
 rintro e w0 ⟨rfl,rfl⟩
 go_wp2_with fail
 refine(OPX.out _ (HW.out.below hB0)).mono ?_
 rintro e w1 ⟨rfl,hb1⟩
 have hB1:=hB0.trans (hb1.mono hB0.size)
 clear hb1
 go_wp2_with fail
 refine(OPY.out _ (HW.out.below hB1)).mono ?_
 rintro e w2 ⟨rfl,hb2⟩
 have hB2:=hB1.trans (hb2.mono hB1.size)
 clear hb2
 go_wp2_with fail
 refine(GC.out _ (HW.out.below hB2)).mono ?_
 rintro e w3 ⟨rfl,hb3⟩
 have hB3:=hB2.trans (hb3.mono hB2.size)
 clear hb3
 go_wp2_with fail
 go_ret2
 exact⟨rfl,hB3⟩
theorem zs3 (a b sx sy sg:ByteArray) (hp:∀W:zA,zC zF 68 #[.string b,.string ⟨#[45]⟩] W λe w'=>e=.returned (.bool true)/\w'=W)
 (opx:qK 69 #[.string a] (.string sx))
 (opy:qK 69 #[.string b] (.string sy))
 (gc:qK 70 #[.string sx,.string sy] (.tuple #[.string sg,.int .i64 0]))
 (g1:(sg.toList==[49])=true)
 (d1:(sy.toList==[49])=false) (z1:sx.size<=400) (z2:sy.size<=400)
 (w:zA) (hw:Wd w):
 qJ 26 #[.string a,.string b] w (.tuple #[.string (sx++⟨#[47]⟩++sy),.int .i64 0]):=by
 have HP:=hid hp;have GC:=hid gc;have HW:=hid hw;have OPX:=hid opx;have OPY:=hid opy
 clear hp gc opx opy hw
 have hB0:=zM w.heap.size w
 go_enter Tryz.func26,Tryz.ntmps26
 go_wp2_with fail
 refine(HP.out _).mono ?_
 rintro e w0 ⟨rfl,rfl⟩
 go_wp2_with fail
 refine(OPX.out _ (HW.out.below hB0)).mono ?_
 rintro e w1 ⟨rfl,hb1⟩
 have hB1:=hB0.trans (hb1.mono hB0.size)
 clear hb1
 go_wp2_with fail
 refine(OPY.out _ (HW.out.below hB1)).mono ?_
 rintro e w2 ⟨rfl,hb2⟩
 have hB2:=hB1.trans (hb2.mono hB1.size)
 clear hb2
 go_wp2_with fail
 refine(GC.out _ (HW.out.below hB2)).mono ?_
 rintro e w3 ⟨rfl,hb3⟩
 have hB3:=hB2.trans (hb3.mono hB2.size)
 clear hb3
 go_wp2_with fail
 go_ret2
 exact⟨rfl,hB3⟩
theorem zs4 (a b sx sy sg sqn sqd:ByteArray) (hp:∀W:zA,zC zF 68 #[.string b,.string ⟨#[45]⟩] W λe w'=>e=.returned (.bool true)/\w'=W)
 (opx:qK 69 #[.string a] (.string sx))
 (opy:qK 69 #[.string b] (.string sy))
 (gc:qK 70 #[.string sx,.string sy] (.tuple #[.string sg,.int .i64 0]))
 (g1:(sg.toList==[49])=false)
 (dvn:qK 71 #[.string sx,.string sg] (.tuple #[.string sqn,St [48],.int .i64 0]))
 (dvd:qK 71 #[.string sy,.string sg] (.tuple #[.string sqd,St [48],.int .i64 0]))
 (d1:(sqd.toList==[49])=true)
 (w:zA) (hw:Wd w):
 qJ 26 #[.string a,.string b] w (.tuple #[.string sqn,.int .i64 0]):=by
 have HP:=hid hp;have GC:=hid gc;have HW:=hid hw;have OPX:=hid opx;have OPY:=hid opy;have DVN:=hid dvn;have DVD:=hid dvd
 clear hp gc opx opy dvn dvd hw
 have hB0:=zM w.heap.size w
 go_enter Tryz.func26,Tryz.ntmps26
 go_wp2_with fail
 refine(HP.out _).mono ?_
 rintro e w0 ⟨rfl,rfl⟩
 go_wp2_with fail
 refine(OPX.out _ (HW.out.below hB0)).mono ?_
 rintro e w1 ⟨rfl,hb1⟩
 have hB1:=hB0.trans (hb1.mono hB0.size)
 clear hb1
 go_wp2_with fail
 refine(OPY.out _ (HW.out.below hB1)).mono ?_
 rintro e w2 ⟨rfl,hb2⟩
 have hB2:=hB1.trans (hb2.mono hB1.size)
 clear hb2
 go_wp2_with fail
 refine(GC.out _ (HW.out.below hB2)).mono ?_
 rintro e w3 ⟨rfl,hb3⟩
 have hB3:=hB2.trans (hb3.mono hB2.size)
 clear hb3
 go_wp2_with fail
 refine(DVN.out _ (HW.out.below hB3)).mono ?_
 rintro e w4 ⟨rfl,hb4⟩
 have hB4:=hB3.trans (hb4.mono hB3.size)
 clear hb4
 go_wp2_with fail
 refine(DVD.out _ (HW.out.below hB4)).mono ?_
 rintro e w5 ⟨rfl,hb5⟩
 have hB5:=hB4.trans (hb5.mono hB4.size)
 clear hb5
 go_wp2_with fail
 go_ret2
 exact⟨rfl,hB5⟩
theorem zs5 (a b sx sy sg sqn sqd:ByteArray) (hp:∀W:zA,zC zF 68 #[.string b,.string ⟨#[45]⟩] W λe w'=>e=.returned (.bool true)/\w'=W)
 (opx:qK 69 #[.string a] (.string sx))
 (opy:qK 69 #[.string b] (.string sy))
 (gc:qK 70 #[.string sx,.string sy] (.tuple #[.string sg,.int .i64 0]))
 (g1:(sg.toList==[49])=false)
 (dvn:qK 71 #[.string sx,.string sg] (.tuple #[.string sqn,St [48],.int .i64 0]))
 (dvd:qK 71 #[.string sy,.string sg] (.tuple #[.string sqd,St [48],.int .i64 0]))
 (d1:(sqd.toList==[49])=false) (z1:sqn.size<=400) (z2:sqd.size<=400)
 (w:zA) (hw:Wd w):
 qJ 26 #[.string a,.string b] w (.tuple #[.string (sqn++⟨#[47]⟩++sqd),.int .i64 0]):=by
 have HP:=hid hp;have GC:=hid gc;have HW:=hid hw;have OPX:=hid opx;have OPY:=hid opy;have DVN:=hid dvn;have DVD:=hid dvd
 clear hp gc opx opy dvn dvd hw
 have hB0:=zM w.heap.size w
 go_enter Tryz.func26,Tryz.ntmps26
 go_wp2_with fail
 refine(HP.out _).mono ?_
 rintro e w0 ⟨rfl,rfl⟩
 go_wp2_with fail
 refine(OPX.out _ (HW.out.below hB0)).mono ?_
 rintro e w1 ⟨rfl,hb1⟩
 have hB1:=hB0.trans (hb1.mono hB0.size)
 clear hb1
 go_wp2_with fail
 refine(OPY.out _ (HW.out.below hB1)).mono ?_
 rintro e w2 ⟨rfl,hb2⟩
 have hB2:=hB1.trans (hb2.mono hB1.size)
 clear hb2
 go_wp2_with fail
 refine(GC.out _ (HW.out.below hB2)).mono ?_
 rintro e w3 ⟨rfl,hb3⟩
 have hB3:=hB2.trans (hb3.mono hB2.size)
 clear hb3
 go_wp2_with fail
 refine(DVN.out _ (HW.out.below hB3)).mono ?_
 rintro e w4 ⟨rfl,hb4⟩
 have hB4:=hB3.trans (hb4.mono hB3.size)
 clear hb4
 go_wp2_with fail
 refine(DVD.out _ (HW.out.below hB4)).mono ?_
 rintro e w5 ⟨rfl,hb5⟩
 have hB5:=hB4.trans (hb5.mono hB4.size)
 clear hb5
 go_wp2_with fail
 go_ret2
 exact⟨rfl,hB5⟩
theorem zgf {l:List UInt8} {s:ByteArray} (h:s=⟨l.toArray⟩):St l=.string s:=by rw[h]
theorem zh2 {n:Int} {s:ByteArray} (hs:s=⟨(zE n).toArray⟩) (b:Bool) (h:(n=1)↔b=true):(s.toList==[49])=b:=by
 rw[zfo hs]
 cases b with
 |true=>rw[beq_iff_eq,h.2 rfl,zmn]
 |false=>rw[beq_eq_false_iff_ne];intro e;exact absurd (h.1 (zdo (e.trans zmn.symm))) (by simp)
theorem zj2 {x y:Int} (h:x.natAbs<=y.natAbs):digs x<=digs y:=by
 unfold digs
 have hy:=(zaf y.natAbs (digs y) (zbn y)).1 (zN _)
 exact(zaf x.natAbs (digs y) (zbn y)).2 (Nat.lt_of_le_of_lt h hy)
theorem zfa (x y:Int) (hy:y≠0) (hx3:digs x<=300) (hy3:digs y<=300) (w:zA) (hw:Wd w):
 qJ 26 #[St (zE x),St (zE y)] w (.tuple #[St (numS (Rat.divInt x y)),.int .i64 0]):=by
 have key:∀X Y:Int,0<Y->Rat.divInt X Y=Rat.divInt x y->digs X<=300->digs Y<=300->(∀(sx sy:ByteArray) (_:sx=⟨(zE X).toArray⟩) (_:sy=⟨(zE Y).toArray⟩) (sg sqn sqd:ByteArray)
  (_:qK 70 #[.string sx,.string sy] (.tuple #[.string sg,.int .i64 0]))
  (res:ByteArray) (_:St (numS (Rat.divInt x y))=.string res)
  (_:((sg.toList==[49])=true/\(sy.toList==[49])=true/\res=sx)\/((sg.toList==[49])=true/\(sy.toList==[49])=false/\sx.size<=400/\sy.size<=400/\res=sx++⟨#[47]⟩++sy)\/
    ((sg.toList==[49])=false/\(qK 71 #[.string sx,.string sg] (.tuple #[.string sqn,St [48],.int .i64 0]))/\
      (qK 71 #[.string sy,.string sg] (.tuple #[.string sqd,St [48],.int .i64 0]))/\
      (((sqd.toList==[49])=true/\res=sqn)\/((sqd.toList==[49])=false/\sqn.size<=400/\sqd.size<=400/\res=sqn++⟨#[47]⟩++sqd)))),
  qJ 26 #[St (zE x),St (zE y)] w (.tuple #[.string res,.int .i64 0]))->
  qJ 26 #[St (zE x),St (zE y)] w (.tuple #[St (numS (Rat.divInt x y)),.int .i64 0]):=by
  intro X Y hY hXY hX3 hY3 H
  obtain⟨g,hg⟩:∃g:Nat,g=Int.gcd X Y:=⟨_,rfl⟩
  have hg0:0<g:=by rw[hg];exact Int.gcd_pos_of_ne_zero_right _ (by omega)
  have hgX:(g:Int)∣X:=by rw[hg];exact Int.gcd_dvd_left _ _
  have hgY:(g:Int)∣Y:=by rw[hg];exact Int.gcd_dvd_right _ _
  have hm:=zif X Y hY
  rw[hXY,<-hg] at hm
  have hXe:X=X/(g:Int)*g:=(Int.ediv_mul_cancel hgX).symm
  have hYe:Y=Y/(g:Int)*g:=(Int.ediv_mul_cancel hgY).symm
  have hqn3:digs (X/(g:Int))<=300:=zO (zj2 (by rw[Int.natAbs_ediv_of_dvd hgX];exact Nat.div_le_self _ _)) hX3
  have hqd3:digs (Y/(g:Int))<=300:=zO (zj2 (by rw[Int.natAbs_ediv_of_dvd hgY];exact Nat.div_le_self _ _)) hY3
  have hg3:digs (g:Int)<=300:=zO (zj2 (by have:=Int.le_of_dvd hY hgY;omega)) hY3
  have hsz:∀(z:Int) (s:ByteArray),s=⟨(zE z).toArray⟩->digs z<=300->s.size<=400:=by
   intro z s hs hz
   have h1:=za7 z
   have:s.size=(zE z).length:=by rw[hs];exact zZ
   omega
  obtain⟨sx,hsx⟩:∃s:ByteArray,s=⟨(zE X).toArray⟩:=⟨_,rfl⟩
  obtain⟨sy,hsy⟩:∃s:ByteArray,s=⟨(zE Y).toArray⟩:=⟨_,rfl⟩
  obtain⟨sg,hsg⟩:∃s:ByteArray,s=⟨(zE (g:Int)).toArray⟩:=⟨_,rfl⟩
  obtain⟨sqn,hsqn⟩:∃s:ByteArray,s=⟨(zE (X/(g:Int))).toArray⟩:=⟨_,rfl⟩
  obtain⟨sqd,hsqd⟩:∃s:ByteArray,s=⟨(zE (Y/(g:Int))).toArray⟩:=⟨_,rfl⟩
  have hgc:qK 70 #[.string sx,.string sy] (.tuple #[.string sg,.int .i64 0]):=by
   intro W hW
   have:=ztw X Y hX3 hY3 W hW
   rw[hsx,hsy,hsg,hg];exact this
  have hdn:qK 71 #[.string sx,.string sg] (.tuple #[.string sqn,St [48],.int .i64 0]):=by
   intro W hW
   have:=zky X g _ hXe (by omega) hX3 hg3 W hW
   rw[hsx,hsg,hsqn];exact this
  have hdd:qK 71 #[.string sy,.string sg] (.tuple #[.string sqd,St [48],.int .i64 0]):=by
   intro W hW
   have:=zky Y g _ hYe (by omega) hY3 hg3 W hW
   rw[hsy,hsg,hsqd];exact this
  have hres:∃res:ByteArray,St (numS (Rat.divInt x y))=.string res:=⟨_,rfl⟩
  obtain⟨res,hr⟩:=hres
  rw[hr]
  refine H sx sy hsx hsy sg sqn sqd hgc res hr ?_
  have hsg1:=λb h=>zh2 hsg b h
  have hres':∀r:ByteArray,Value.string r=St (numS (Rat.divInt x y))->res=r:=λr h=>by rw[hr] at h;injection h with h;exact h.symm
  by_cases hg1:g=1
  ·have eX:X/(g:Int)=X:=by rw[hg1];exact Int.ediv_one X
   have eY:Y/(g:Int)=Y:=by rw[hg1];exact Int.ediv_one Y
   rw[eX,eY] at hm
   have h1:=hsg1 true (by simp[hg1])
   by_cases hY1:Y=1
   ·refine .inl ⟨h1,zh2 hsy true (by simp[hY1]),hres' _ ?_⟩
    rw[hm,if_pos hY1,List.append_nil,hsx]
   ·refine .inr (.inl ⟨h1,zh2 hsy false (by simp[hY1]),hsz _ _ hsx hX3,hsz _ _ hsy hY3,hres' _ ?_⟩)
    rw[hm,if_neg hY1,hsx,hsy,zik]
  ·refine .inr (.inr ⟨hsg1 false (by simp;omega),hdn,hdd,?_⟩)
   by_cases hY1:Y/(g:Int)=1
   ·refine .inl ⟨zh2 hsqd true (by simp[hY1]),hres' _ ?_⟩
    rw[hm,if_pos hY1,List.append_nil,hsqn]
   ·refine .inr ⟨zh2 hsqd false (by simp[hY1]),hsz _ _ hsqn hqn3,hsz _ _ hsqd hqd3,hres' _ ?_⟩
    rw[hm,if_neg hY1,hsqn,hsqd,zik]
 have hhp:∀(b:ByteArray) (_:b=⟨(zE y).toArray⟩) (W:zA),zC zF 68 #[.string b,.string ⟨#[45]⟩] W λe w'=>e=.returned (.bool (decide (y<0)))/\w'=W:=by
  intro b hb W
  have:=Tryz.strings_HasPrefix b ⟨#[45]⟩ W
  rw[show b.data.toList=zE y from by rw[hb],show(⟨#[45]⟩:ByteArray).data.toList=[45] from rfl,zdx] at this
  exact this
 rcases Int.lt_or_lt_of_ne hy with hn|hp
 ·refine key (-x) (-y) (by omega) ?_ (by unfold digs at*;rw[Int.natAbs_neg];exact hx3) (by unfold digs at*;rw[Int.natAbs_neg];exact hy3) ?_
  ·rw[zjd x y hn,show-y=((y.natAbs:Nat):Int) from by omega]
  intro sx sy hsx hsy sg sqn sqd gc res hr h
  obtain⟨a,ha⟩:∃s:ByteArray,s=⟨(zE x).toArray⟩:=⟨_,rfl⟩
  obtain⟨b,hb⟩:∃s:ByteArray,s=⟨(zE y).toArray⟩:=⟨_,rfl⟩
  rw[zgf ha,zgf hb]
  have hp:=hhp b hb
  rw[decide_eq_true hn] at hp
  have opx:qK 69 #[.string a] (.string sx):=by
   intro W _;rw[ha,hsx];exact zk3 x (by omega) W
  have opy:qK 69 #[.string b] (.string sy):=by
   intro W _;rw[hb,hsy];exact zk3 y (by omega) W
  rcases h with⟨h1,h2,rfl⟩|⟨h1,h2,h3,h4,rfl⟩|⟨h1,h2,h3,⟨h4,rfl⟩|⟨h4,h5,h6,rfl⟩⟩
  ·exact zs2 a b _ sy sg hp opx opy gc h1 h2 w hw
  ·exact zs3 a b sx sy sg hp opx opy gc h1 h2 h3 h4 w hw
  ·exact zs4 a b sx sy sg _ sqd hp opx opy gc h1 h2 h3 h4 w hw
  ·exact zs5 a b sx sy sg sqn sqd hp opx opy gc h1 h2 h3 h4 h5 h6 w hw
 ·refine key x y hp rfl hx3 hy3 ?_
  intro sx sy hsx hsy sg sqn sqd gc res hr h
  rw[zgf hsx,zgf hsy]
  have hp':=hhp sy hsy
  rw[decide_eq_false (by omega)] at hp'
  rcases h with⟨h1,h2,rfl⟩|⟨h1,h2,h3,h4,rfl⟩|⟨h1,h2,h3,⟨h4,rfl⟩|⟨h4,h5,h6,rfl⟩⟩
  ·exact zsy _ sy sg hp' gc h1 h2 w hw
  ·exact zsz sx sy sg hp' gc h1 h2 h3 h4 w hw
  ·exact zs0 sx sy sg _ sqd hp' gc h1 h2 h3 h4 w hw
  ·exact zs1 sx sy sg sqn sqd hp' gc h1 h2 h3 h4 h5 h6 w hw
theorem zbs {x y:Int} (hx: -100000000<x/\x<100000000) (hy: -100000000<y/\y<100000000): -10000000000000000<x*y/\x*y<10000000000000000:=by
 have h1:x.natAbs<=99999999:=by omega
 have h2:y.natAbs<=99999999:=by omega
 have h3:(x*y).natAbs<=99999999*99999999:=by rw[Int.natAbs_mul];exact Nat.mul_le_mul h1 h2
 omega
theorem nadd (n1 d1 n2 d2:Int) (a1: -100000000<n1/\n1<100000000) (b1: -100000000<d1/\d1<100000000) (a2: -100000000<n2/\n2<100000000) (b2: -100000000<d2/\d2<100000000) (w:zA):
 qJ 94 #[.agg #[.int .i64 n1,.int .i64 d1],.agg #[.int .i64 n2,.int .i64 d2]] w (.agg #[.int .i64 (n1*d2+n2*d1),.int .i64 (d1*d2)]):=by
 have p0:=zbs a1 b2
 have v0:IntKind.i64.wrap (n1*d2)=n1*d2:=zI _ (by omega)
 have p1:=zbs a2 b1
 have v1:IntKind.i64.wrap (n2*d1)=n2*d1:=zI _ (by omega)
 have p2:=zbs b1 b2
 have v2:IntKind.i64.wrap (d1*d2)=d1*d2:=zI _ (by omega)
 have v3:IntKind.i64.wrap (n1*d2+n2*d1)=n1*d2+n2*d1:=zI _ (by omega)
 clear p0 p1 p2
 clear a1 b1 a2 b2
 go_enter Tryz.func94,Tryz.ntmps94
 go_wp2_with fail
 refine bodyPost_ret (v:=.agg #[.int .i64 (n1*d2+n2*d1),.int .i64 (d1*d2)]) (by simp[results,Tryz.results94,go_sem]) rfl ⟨rfl,?_⟩
 repeat(first|exact zM _ _|refine Below.alloc ?_ (by simp<;>omega) _|refine zao ?_ _|refine Below.setCell ?_ (by simp<;>omega) _)
theorem nsub (n1 d1 n2 d2:Int) (a1: -100000000<n1/\n1<100000000) (b1: -100000000<d1/\d1<100000000) (a2: -100000000<n2/\n2<100000000) (b2: -100000000<d2/\d2<100000000) (w:zA):
 qJ 46 #[.agg #[.int .i64 n1,.int .i64 d1],.agg #[.int .i64 n2,.int .i64 d2]] w (.agg #[.int .i64 (n1*d2-n2*d1),.int .i64 (d1*d2)]):=by
 have p0:=zbs a1 b2
 have v0:IntKind.i64.wrap (n1*d2)=n1*d2:=zI _ (by omega)
 have p1:=zbs a2 b1
 have v1:IntKind.i64.wrap (n2*d1)=n2*d1:=zI _ (by omega)
 have p2:=zbs b1 b2
 have v2:IntKind.i64.wrap (d1*d2)=d1*d2:=zI _ (by omega)
 have v3:IntKind.i64.wrap (n1*d2-n2*d1)=n1*d2-n2*d1:=zI _ (by omega)
 clear p0 p1 p2
 clear a1 b1 a2 b2
 go_enter Tryz.func46,Tryz.ntmps46
 go_wp2_with fail
 refine bodyPost_ret (v:=.agg #[.int .i64 (n1*d2-n2*d1),.int .i64 (d1*d2)]) (by simp[results,Tryz.results46,go_sem]) rfl ⟨rfl,?_⟩
 repeat(first|exact zM _ _|refine Below.alloc ?_ (by simp<;>omega) _|refine zao ?_ _|refine Below.setCell ?_ (by simp<;>omega) _)
theorem nmul (n1 d1 n2 d2:Int) (a1: -100000000<n1/\n1<100000000) (b1: -100000000<d1/\d1<100000000) (a2: -100000000<n2/\n2<100000000) (b2: -100000000<d2/\d2<100000000) (w:zA):
 qJ 22 #[.agg #[.int .i64 n1,.int .i64 d1],.agg #[.int .i64 n2,.int .i64 d2]] w (.agg #[.int .i64 (n1*n2),.int .i64 (d1*d2)]):=by
 have p0:=zbs a1 a2
 have v0:IntKind.i64.wrap (n1*n2)=n1*n2:=zI _ (by omega)
 have p1:=zbs b1 b2
 have v1:IntKind.i64.wrap (d1*d2)=d1*d2:=zI _ (by omega)
 clear p0 p1
 clear a1 b1 a2 b2
 go_enter Tryz.func22,Tryz.ntmps22
 go_wp2_with fail
 refine bodyPost_ret (v:=.agg #[.int .i64 (n1*n2),.int .i64 (d1*d2)]) (by simp[results,Tryz.results22,go_sem]) rfl ⟨rfl,?_⟩
 repeat(first|exact zM _ _|refine Below.alloc ?_ (by simp<;>omega) _|refine zao ?_ _|refine Below.setCell ?_ (by simp<;>omega) _)
theorem ndiv (n1 d1 n2 d2:Int) (a1: -100000000<n1/\n1<100000000) (b1: -100000000<d1/\d1<100000000) (a2: -100000000<n2/\n2<100000000) (b2: -100000000<d2/\d2<100000000) (w:zA):
 qJ 106 #[.agg #[.int .i64 n1,.int .i64 d1],.agg #[.int .i64 n2,.int .i64 d2]] w (.agg #[.int .i64 (n1*d2),.int .i64 (d1*n2)]):=by
 have p0:=zbs a1 b2
 have v0:IntKind.i64.wrap (n1*d2)=n1*d2:=zI _ (by omega)
 have p1:=zbs b1 a2
 have v1:IntKind.i64.wrap (d1*n2)=d1*n2:=zI _ (by omega)
 clear p0 p1
 clear a1 b1 a2 b2
 go_enter Tryz.func106,Tryz.ntmps106
 go_wp2_with fail
 refine bodyPost_ret (v:=.agg #[.int .i64 (n1*d2),.int .i64 (d1*n2)]) (by simp[results,Tryz.results106,go_sem]) rfl ⟨rfl,?_⟩
 repeat(first|exact zM _ _|refine Below.alloc ?_ (by simp<;>omega) _|refine zao ?_ _|refine Below.setCell ?_ (by simp<;>omega) _)
theorem zhc (n1 n2:Int) (d1 d2:Nat) (h1:digs n1<=300) (h2:digs n2<=300) (h3:(zD d1).length<=300) (h4:(zD d2).length<=300) (k1:digs (n1*d2)<=300) (w:zA) (hw:Wd w):
 zC zF 32 #[.agg #[St (zE n1),St (zD d1)],.agg #[St (zE n2),St (zD d2)]] w λe w'=>
  e=.returned (.tuple #[St (zE (n1*d2)),St (resL (n2*d1)),.int .i64 (resE (n2*d1))])/\Below w.heap.size w w':=by
 have m1:=λW hW=>zhk n1 d2 h1 (by unfold digs;rw[Int.natAbs_natCast];exact h4) W hW
 have m2:=λW hW=>zhk n2 d1 h2 (by unfold digs;rw[Int.natAbs_natCast];exact h3) W hW
 rw[zcf k1,zcg k1,Str.zad] at m1
 rw[Str.zad] at m2
 generalize zE n1=s1 at m1⊢
 generalize zE n2=s2 at m2⊢
 generalize zD d1=t1 at m2⊢
 generalize zD d2=t2 at m1⊢
 generalize zE (n1*d2)=u at m1⊢
 generalize resL (n2*d1)=v at m2⊢
 generalize resE (n2*d1)=x at m2⊢
 have M1:=hid m1;have M2:=hid m2;have HW:=hid hw
 clear m1 m2 hw h1 h2 h3 h4 k1
 obtain⟨W3,hW3⟩:∃W3,W3=(w.alloc (.cells #[St s1,St t1] 69)).alloc (.cells #[St s2,St t2] 69):=⟨_,rfl⟩
 have hB0:qL w W3:=by rw[hW3];exact((zM _ w).alloc (zN _) _).alloc (by simp) _
 have z0:W3.heap.size=w.heap.size+1+1:=by rw[hW3];simp
 have A3:W3.heap[w.heap.size]? =some (.cells #[St s1,St t1] 69 (0,0)):=by
  rw[hW3];exact(Below.heap_alloc _ _ _ (by simp only[zH];omega)).trans (zG w _)
 have B3:W3.heap[w.heap.size+1]? =some (.cells #[St s2,St t2] 69 (0,0)):=by
  have:=zG (w.alloc (.cells #[St s1,St t1] 69)) (.cells #[St s2,St t2] 69 (0,0))
  rw[zH] at this
  rw[hW3];exact this
 have HW3:=hid hW3;clear hW3
 go_enter Tryz.func32,Tryz.ntmps32
 go_wp2_with fail
 rw[<-HW3.out]
 refine(M1.out _ (HW.out.below hB0)).mono ?_
 rintro e w4 ⟨rfl,hb4⟩
 have hB4:=hB0.trans (hb4.mono hB0.size)
 have A4:w4.heap[w.heap.size]? =some (.cells #[St s1,St t1] 69 (0,0)):=(hb4.block _ (by omega)).trans A3
 have B4:w4.heap[w.heap.size+1]? =some (.cells #[St s2,St t2] 69 (0,0)):=(hb4.block _ (by omega)).trans B3
 have A41:w4.cell? ⟨w.heap.size,1,none⟩=some (St t1):=by simp[World.cell?,A4]
 have B40:w4.cell? ⟨w.heap.size+1,0,none⟩=some (St s2):=by simp[World.cell?,B4]
 clear hb4 A3 B3 z0
 go_wp2_with fail
 refine(M2.out _ (HW.out.below hB4)).mono ?_
 rintro e w5 ⟨rfl,hb5⟩
 have hB5:=hB4.trans (hb5.mono hB4.size)
 clear hb5 A4 B4 A41 B40
 go_wp2_with fail
 go_ret3
 exact⟨rfl,hB5⟩
theorem zd9 (n:Nat):digs (n:Int)=(zD n).length:=by unfold digs;rw[Int.natAbs_natCast]
def zb1 (q:Rat):Value:=.agg #[St (zE q.num),St (zD q.den)]
theorem zt7 (a b:Rat) (ha:okQ a) (hb:okQ b) (h1:digs (a.num*b.num)<=300) (h2:(zD (a.den*b.den)).length<=300) (w:zA) (hw:Wd w):
 qJ 24 #[zb1 a,zb1 b] w (.tuple #[St (numS (a*b)),.int .i64 0]):=by
 have m1:=λW hW=>zhk a.num b.num ha.1 hb.1 W hW
 have m2:=λW hW=>zhk (a.den:Int) (b.den:Int) (by rw[zd9];exact ha.2) (by rw[zd9];exact hb.2) W hW
 rw[<-Int.natCast_mul,Str.zad,Str.zad] at m2
 have h2':digs ((a.den*b.den:Nat):Int)<=300:=by rw[zd9];exact h2
 rw[zcf h1,zcg h1] at m1
 rw[zcf h2',zcg h2'] at m2
 have hn:=λW hW=>zfa (a.num*b.num) ((a.den*b.den:Nat):Int) (by have:=Nat.mul_pos a.den_pos b.den_pos;omega) h1 h2' W hW
 rw[<-zf1] at hn
 unfold zb1
 generalize zE a.num=s1 at m1⊢
 generalize zE b.num=s2 at m1⊢
 generalize zD a.den=t1 at m2⊢
 generalize zD b.den=t2 at m2⊢
 generalize zE (a.num*b.num)=u at m1 hn
 generalize zE ((a.den*b.den:Nat):Int)=v at m2 hn
 generalize numS (a*b)=r at hn⊢
 have M1:=hid m1;have M2:=hid m2;have HN:=hid hn;have HW:=hid hw
 clear m1 m2 hn hw h1 h2 h2' ha hb
 obtain⟨W3,hW3⟩:∃W3,W3=(w.alloc (.cells #[St s1,St t1] 69)).alloc (.cells #[St s2,St t2] 69):=⟨_,rfl⟩
 have hB0:qL w W3:=by rw[hW3];exact((zM _ w).alloc (zN _) _).alloc (by simp) _
 have z0:W3.heap.size=w.heap.size+1+1:=by rw[hW3];simp
 have A3:W3.heap[w.heap.size]? =some (.cells #[St s1,St t1] 69 (0,0)):=by
  rw[hW3];exact(Below.heap_alloc _ _ _ (by simp only[zH];omega)).trans (zG w _)
 have B3:W3.heap[w.heap.size+1]? =some (.cells #[St s2,St t2] 69 (0,0)):=by
  have:=zG (w.alloc (.cells #[St s1,St t1] 69)) (.cells #[St s2,St t2] 69 (0,0))
  rw[zH] at this
  rw[hW3];exact this
 have HW3:=hid hW3;clear hW3
 go_enter Tryz.func24,Tryz.ntmps24
 go_wp2_with fail
 rw[<-HW3.out]
 refine(M1.out _ (HW.out.below hB0)).mono ?_
 rintro e w4 ⟨rfl,hb4⟩
 have hB4:=hB0.trans (hb4.mono hB0.size)
 have A4:w4.heap[w.heap.size]? =some (.cells #[St s1,St t1] 69 (0,0)):=(hb4.block _ (by omega)).trans A3
 have B4:w4.heap[w.heap.size+1]? =some (.cells #[St s2,St t2] 69 (0,0)):=(hb4.block _ (by omega)).trans B3
 have A41:w4.cell? ⟨w.heap.size,1,none⟩=some (St t1):=by simp[World.cell?,A4]
 have B41:w4.cell? ⟨w.heap.size+1,1,none⟩=some (St t2):=by simp[World.cell?,B4]
 clear hb4 A3 B3 z0
 go_wp2_with fail
 refine(M2.out _ (HW.out.below hB4)).mono ?_
 rintro e w5 ⟨rfl,hb5⟩
 have hB5:=hB4.trans (hb5.mono hB4.size)
 clear hb5 A4 B4 A41 B41
 go_wp2_with fail
 refine(HN.out _ (HW.out.below hB5)).mono ?_
 rintro e w6 ⟨rfl,hb6⟩
 have hB6:=hB5.trans (hb6.mono hB5.size)
 clear hb6
 go_wp2_with fail
 go_ret2
 exact⟨rfl,hB6⟩
theorem z1o (a b:Rat) (hb0:b≠0) (ha:okQ a) (hb:okQ b) (h1:digs (a.num*b.den)<=300) (h2:digs (b.num*a.den)<=300) (w:zA) (hw:Wd w):
 qJ 107 #[zb1 a,zb1 b] w (.tuple #[St (numS (a/b)),.int .i64 0]):=by
 have m1:=λW hW=>zhc a.num b.num a.den b.den ha.1 hb.1 ha.2 hb.2 h1 W hW
 rw[zcf h2,zcg h2] at m1
 have hnz:b.num≠0:=λh=>hb0 (Rat.num_eq_zero.1 h)
 have hdz:b.num*(a.den:Int)≠0:=Int.mul_ne_zero hnz (by have:=a.den_pos;omega)
 have hn:=λW hW=>zfa (a.num*b.den) (b.num*a.den) hdz h1 h2 W hW
 rw[Int.mul_comm b.num,<-zjx a b hb0,Int.mul_comm (a.den:Int)] at hn
 have hz:((⟨(zE b.num).toArray⟩:ByteArray).toList==[48])=false:=by
  rw[beq_eq_false_iff_ne,ByteArray.toList_eq]
  intro e;exact hnz (zdo ((show zE b.num=[48] from by simpa using e).trans zb9.symm))
 unfold zb1
 generalize zE a.num=s1 at m1⊢
 generalize zE b.num=s2 at m1 hz⊢
 generalize zD a.den=t1 at m1⊢
 generalize zD b.den=t2 at m1⊢
 generalize zE (a.num*b.den)=u at m1 hn
 generalize zE (b.num*a.den)=v at m1 hn
 generalize numS (a/b)=r at hn⊢
 obtain⟨S2,hS2⟩:∃S2:ByteArray,S2=⟨s2.toArray⟩:=⟨_,rfl⟩
 rw[show St s2=.string S2 from by rw[hS2]] at m1⊢
 rw[<-hS2] at hz
 have M1:=hid m1;have HN:=hid hn;have HW:=hid hw
 clear m1 hn hw h1 h2 ha hb hS2 hnz hdz hb0
 have hB0:qL w ((w.alloc (.cells #[St s1,St t1] 69)).alloc (.cells #[.string S2,St t2] 69)):=((zM _ w).alloc (zN _) _).alloc (by simp) _
 go_enter Tryz.func107,Tryz.ntmps107
 go_wp2_with fail
 refine(M1.out _ (HW.out.below hB0)).mono ?_
 rintro e w4 ⟨rfl,hb4⟩
 have hB4:=hB0.trans (hb4.mono hB0.size)
 clear hb4
 go_wp2_with fail
 refine(HN.out _ (HW.out.below hB4)).mono ?_
 rintro e w6 ⟨rfl,hb6⟩
 have hB6:=hB4.trans (hb6.mono hB4.size)
 clear hb6
 go_wp2_with fail
 go_ret2
 exact⟨rfl,hB6⟩
theorem zy8 (a b:Rat) (ha:okQ a) (hb:okQ b) (h1:digs (a.num*b.den)<=300) (h2:digs (b.num*a.den)<=300) (h3:digs (a.num*b.den+b.num*a.den)<=300) (h4:(zD (a.den*b.den)).length<=300)
 (c:Nat) (w:zA) (hc:w.cell? ⟨c,0,none⟩=some (.func (.func 95) #[] #[])) (hw:Wd w):
 qJ 96 #[zb1 a,zb1 b,.pointer (some ⟨c,0,none⟩)] w (.tuple #[St (numS (a+b)),.int .i64 0]):=by
 have m1:=λW hW=>zhc a.num b.num a.den b.den ha.1 hb.1 ha.2 hb.2 h1 W hW
 rw[zcf h2,zcg h2] at m1
 have m3:=λW hW=>z1c (a.num*b.den) (b.num*a.den) h1 h2 W hW
 rw[zcf h3,zcg h3] at m3
 have m2:=λW hW=>zhk (a.den:Int) (b.den:Int) (by rw[zd9];exact ha.2) (by rw[zd9];exact hb.2) W hW
 rw[<-Int.natCast_mul,Str.zad,Str.zad] at m2
 have h4':digs ((a.den*b.den:Nat):Int)<=300:=by rw[zd9];exact h4
 rw[zcf h4',zcg h4'] at m2
 have hn:=λW hW=>zfa (a.num*b.den+b.num*a.den) ((a.den*b.den:Nat):Int) (by have:=Nat.mul_pos a.den_pos b.den_pos;omega) h3 h4' W hW
 rw[<-zf0] at hn
 unfold zb1
 generalize zE a.num=s1 at m1⊢
 generalize zE b.num=s2 at m1⊢
 generalize zD a.den=t1 at m1 m2⊢
 generalize zD b.den=t2 at m1 m2⊢
 generalize zE (a.num*b.den+b.num*a.den)=u at m3 hn
 generalize zE (a.num*b.den)=u1 at m1 m3
 generalize zE (b.num*a.den)=u2 at m1 m3
 generalize zE ((a.den*b.den:Nat):Int)=v at m2 hn
 generalize numS (a+b)=r at hn⊢
 have M1:=hid m1;have M2:=hid m2;have M3:=hid m3;have HN:=hid hn;have HW:=hid hw
 clear m1 m2 m3 hn hw h1 h2 h3 h4 h4' ha hb
 have zc:=zbe hc
 dsimp only at zc
 obtain⟨W3,hW3⟩:∃W3,W3=(w.alloc (.cells #[St s1,St t1] 69)).alloc (.cells #[St s2,St t2] 69):=⟨_,rfl⟩
 have hB0:qL w W3:=by rw[hW3];exact((zM _ w).alloc (zN _) _).alloc (by simp) _
 have z0:W3.heap.size=w.heap.size+1+1:=by rw[hW3];simp
 have A3:W3.heap[w.heap.size]? =some (.cells #[St s1,St t1] 69 (0,0)):=by
  rw[hW3];exact(Below.heap_alloc _ _ _ (by simp only[zH];omega)).trans (zG w _)
 have B3:W3.heap[w.heap.size+1]? =some (.cells #[St s2,St t2] 69 (0,0)):=by
  have:=zG (w.alloc (.cells #[St s1,St t1] 69)) (.cells #[St s2,St t2] 69 (0,0))
  rw[zH] at this
  rw[hW3];exact this
 have HW3:=hid hW3;clear hW3
 go_enter Tryz.func96,Tryz.ntmps96
 go_wp2_with fail
 rw[<-HW3.out]
 refine(M1.out _ (HW.out.below hB0)).mono ?_
 rintro e w4 ⟨rfl,hb4⟩
 have hB4:=hB0.trans (hb4.mono hB0.size)
 have A4:w4.heap[w.heap.size]? =some (.cells #[St s1,St t1] 69 (0,0)):=(hb4.block _ (by omega)).trans A3
 have B4:w4.heap[w.heap.size+1]? =some (.cells #[St s2,St t2] 69 (0,0)):=(hb4.block _ (by omega)).trans B3
 have z4:W3.heap.size<=w4.heap.size:=hb4.size
 have C4:w4.cell? ⟨c,0,none⟩=some (.func (.func 95) #[] #[]):=by rw[hB4.cell (p:=⟨c,0,none⟩) zc];exact hc
 have HC:=hid hc;clear hc
 clear hb4 A3 B3
 go_wp2_with fail
 refine(M3.out _ (HW.out.below hB4)).mono ?_
 rintro e w5 ⟨rfl,hb5⟩
 have hB5:=hB4.trans (hb5.mono hB4.size)
 have A5:w5.heap[w.heap.size]? =some (.cells #[St s1,St t1] 69 (0,0)):=(hb5.block _ (by omega)).trans A4
 have B5:w5.heap[w.heap.size+1]? =some (.cells #[St s2,St t2] 69 (0,0)):=(hb5.block _ (by omega)).trans B4
 have A51:w5.cell? ⟨w.heap.size,1,none⟩=some (St t1):=by simp[World.cell?,A5]
 have B51:w5.cell? ⟨w.heap.size+1,1,none⟩=some (St t2):=by simp[World.cell?,B5]
 clear hb5 A4 B4 C4 A5 B5
 go_wp2_with fail
 refine(M2.out _ (HW.out.below hB5)).mono ?_
 rintro e w6 ⟨rfl,hb6⟩
 have hB6:=hB5.trans (hb6.mono hB5.size)
 clear hb6 A51 B51
 go_wp2_with fail
 refine(HN.out _ (HW.out.below hB6)).mono ?_
 rintro e w7 ⟨rfl,hb7⟩
 have hB7:=hB6.trans (hb7.mono hB6.size)
 clear hb7
 go_wp2_with fail
 go_ret2
 exact⟨rfl,hB7⟩
theorem zy9 (a b:Rat) (ha:okQ a) (hb:okQ b) (h1:digs (a.num*b.den)<=300) (h2:digs (b.num*a.den)<=300) (h3:digs (a.num*b.den-b.num*a.den)<=300) (h4:(zD (a.den*b.den)).length<=300)
 (c:Nat) (w:zA) (hc:w.cell? ⟨c,0,none⟩=some (.func (.func 48) #[] #[])) (hw:Wd w):
 qJ 96 #[zb1 a,zb1 b,.pointer (some ⟨c,0,none⟩)] w (.tuple #[St (numS (a-b)),.int .i64 0]):=by
 have m1:=λW hW=>zhc a.num b.num a.den b.den ha.1 hb.1 ha.2 hb.2 h1 W hW
 rw[zcf h2,zcg h2] at m1
 have m3:=λW hW=>z1e (a.num*b.den) (b.num*a.den) h1 h2 W hW
 rw[zcf h3,zcg h3] at m3
 have m2:=λW hW=>zhk (a.den:Int) (b.den:Int) (by rw[zd9];exact ha.2) (by rw[zd9];exact hb.2) W hW
 rw[<-Int.natCast_mul,Str.zad,Str.zad] at m2
 have h4':digs ((a.den*b.den:Nat):Int)<=300:=by rw[zd9];exact h4
 rw[zcf h4',zcg h4'] at m2
 have hn:=λW hW=>zfa (a.num*b.den-b.num*a.den) ((a.den*b.den:Nat):Int) (by have:=Nat.mul_pos a.den_pos b.den_pos;omega) h3 h4' W hW
 rw[<-znk] at hn
 unfold zb1
 generalize zE a.num=s1 at m1⊢
 generalize zE b.num=s2 at m1⊢
 generalize zD a.den=t1 at m1 m2⊢
 generalize zD b.den=t2 at m1 m2⊢
 generalize zE (a.num*b.den-b.num*a.den)=u at m3 hn
 generalize zE (a.num*b.den)=u1 at m1 m3
 generalize zE (b.num*a.den)=u2 at m1 m3
 generalize zE ((a.den*b.den:Nat):Int)=v at m2 hn
 generalize numS (a-b)=r at hn⊢
 have M1:=hid m1;have M2:=hid m2;have M3:=hid m3;have HN:=hid hn;have HW:=hid hw
 clear m1 m2 m3 hn hw h1 h2 h3 h4 h4' ha hb
 have zc:=zbe hc
 dsimp only at zc
 obtain⟨W3,hW3⟩:∃W3,W3=(w.alloc (.cells #[St s1,St t1] 69)).alloc (.cells #[St s2,St t2] 69):=⟨_,rfl⟩
 have hB0:qL w W3:=by rw[hW3];exact((zM _ w).alloc (zN _) _).alloc (by simp) _
 have z0:W3.heap.size=w.heap.size+1+1:=by rw[hW3];simp
 have A3:W3.heap[w.heap.size]? =some (.cells #[St s1,St t1] 69 (0,0)):=by
  rw[hW3];exact(Below.heap_alloc _ _ _ (by simp only[zH];omega)).trans (zG w _)
 have B3:W3.heap[w.heap.size+1]? =some (.cells #[St s2,St t2] 69 (0,0)):=by
  have:=zG (w.alloc (.cells #[St s1,St t1] 69)) (.cells #[St s2,St t2] 69 (0,0))
  rw[zH] at this
  rw[hW3];exact this
 have HW3:=hid hW3;clear hW3
 go_enter Tryz.func96,Tryz.ntmps96
 go_wp2_with fail
 rw[<-HW3.out]
 refine(M1.out _ (HW.out.below hB0)).mono ?_
 rintro e w4 ⟨rfl,hb4⟩
 have hB4:=hB0.trans (hb4.mono hB0.size)
 have A4:w4.heap[w.heap.size]? =some (.cells #[St s1,St t1] 69 (0,0)):=(hb4.block _ (by omega)).trans A3
 have B4:w4.heap[w.heap.size+1]? =some (.cells #[St s2,St t2] 69 (0,0)):=(hb4.block _ (by omega)).trans B3
 have z4:W3.heap.size<=w4.heap.size:=hb4.size
 have C4:w4.cell? ⟨c,0,none⟩=some (.func (.func 48) #[] #[]):=by rw[hB4.cell (p:=⟨c,0,none⟩) zc];exact hc
 have HC:=hid hc;clear hc
 clear hb4 A3 B3
 go_wp2_with fail
 refine(M3.out _ (HW.out.below hB4)).mono ?_
 rintro e w5 ⟨rfl,hb5⟩
 have hB5:=hB4.trans (hb5.mono hB4.size)
 have A5:w5.heap[w.heap.size]? =some (.cells #[St s1,St t1] 69 (0,0)):=(hb5.block _ (by omega)).trans A4
 have B5:w5.heap[w.heap.size+1]? =some (.cells #[St s2,St t2] 69 (0,0)):=(hb5.block _ (by omega)).trans B4
 have A51:w5.cell? ⟨w.heap.size,1,none⟩=some (St t1):=by simp[World.cell?,A5]
 have B51:w5.cell? ⟨w.heap.size+1,1,none⟩=some (St t2):=by simp[World.cell?,B5]
 clear hb5 A4 B4 C4 A5 B5
 go_wp2_with fail
 refine(M2.out _ (HW.out.below hB5)).mono ?_
 rintro e w6 ⟨rfl,hb6⟩
 have hB6:=hB5.trans (hb6.mono hB5.size)
 clear hb6 A51 B51
 go_wp2_with fail
 refine(HN.out _ (HW.out.below hB6)).mono ?_
 rintro e w7 ⟨rfl,hb7⟩
 have hB7:=hB6.trans (hb7.mono hB6.size)
 clear hb7
 go_wp2_with fail
 go_ret2
 exact⟨rfl,hB7⟩
theorem zk4 (f:Nat) (w:zA):
 zC zF 47 #[.func (.func f) #[] #[]] w λe w'=>∃t,e=.returned (.func (.func 96) #[] #[.pointer (some ⟨w.heap.size,0,none⟩)])/\w.alloc (.cells #[.func (.func f) #[] #[]] t)=w':=by
 go_enter Tryz.func47,Tryz.ntmps47
 go_wp2_with fail
 go_ret
 exact⟨_,rfl,rfl⟩
end Go.Proofs.YtccijmidbdapaaaGreatDoor
