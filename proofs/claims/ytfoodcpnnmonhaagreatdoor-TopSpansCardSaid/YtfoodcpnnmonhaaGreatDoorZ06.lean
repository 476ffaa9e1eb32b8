/- rational.read, Check, Parts, at a numeral. -/
import Derived.Test.YtfoodcpnnmonhaaGreatDoorZ05
import Derived.Lib.SmallJoins
set_option maxRecDepth 100000
set_option maxHeartbeats 8000000
open Go renaming World → zA, Calls → zC
open Go.RowKit renaming Below → zB, intOf → zL
open Go.Lib renaming decDigits → zD, itoa → zE
open Go.Proofs.Tryz renaming prog → zF
open Go.World renaming alloc_heap_new → zG, size_alloc → zH
open Go.IntWalk renaming i64_in → zI
open Go.Joins renaming cell_of_block → zJ
open Go.RowKit.Below renaming refl → zM
open Nat renaming le_refl → zN, le_trans → zO
open List renaming size_toArray → zZ
namespace Go.Proofs.YtfoodcpnnmonhaaGreatDoor
open Go.RowKit Go.Shelf Lib Str Limb
attribute [local go_sem] Oper.semAt_some
def okQ (q:Rat):Prop:=digs q.num<=300/\(zD q.den).length<=300
theorem z63 {q:Rat} (h:zbb q):okQ q:=⟨zO h.1 (by omega),zO h.2 (by omega)⟩
theorem zu2 (q:Rat) (h:zbb q) (w:zA) (hw:Wd w):
 qJ 57 #[St (numS q)] w (.tuple #[.agg #[St (zE q.num),St (zD q.den)],.int .i64 0]):=by
 have hc:=λW hW=>zoh q (zO h.1 (by omega)) (zO h.2 (by omega)) W hW;have hn:=λW=>zbm q h W;generalize numS q=s at hc hn⊢;generalize zE q.num=sn at hc⊢;generalize zD q.den=sd at hc⊢;generalize q.num=n at hn;generalize q.den=d at hn;have HC:=hid hc;have HN:=hid hn;have HW:=hid hw;clear hc hn hw h;go_enter Tryz.func57,Tryz.ntmps57;go_wp21;refine zzM (HC.out _ (HW.out.below ((zM _ w).alloc (zN _) _))) λw1 hb1=>?_;have hB1:qL w w1:=((zM _ w).alloc (zN _) _).trans (hb1.mono (by simp));have z1:w.heap.size<w1.heap.size:=by have:=hb1.size;simp at this;omega
 have R1:w1.heap[w.heap.size]? =some (.cells #[St [],St []] 98 (0,0)):=(hb1.block _ (by simp)).trans (zG w _);clear hb1;go_wp21;refine zzM (HN.out _) λw2 hb2=>?_;have z2:w1.heap.size<w2.heap.size:=by have:=hb2.size;simp at this;omega
 have hB2:qL w w2:=(hB1.alloc hB1.size _).trans (hb2.mono (by simp;omega));have R2:w2.heap[w.heap.size]? =some (.cells #[St [],St []] 98 (0,0)):=(hb2.block _ (by simp;omega)).trans ((Below.heap_alloc _ _ _ (by omega)).trans R1);have P2:w2.heap[w1.heap.size]? =some (.cells #[St sn,St sd] 98 (0,0)):=(hb2.block _ (by simp)).trans (zG w1 _);have P20:w2.cell? ⟨w1.heap.size,0,none⟩=some (St sn):=by simp[World.cell?,P2]
 have P21:w2.cell? ⟨w1.heap.size,1,none⟩=some (St sd):=by simp[World.cell?,P2]
 have R20:w2.cell? ⟨w.heap.size,0,none⟩=some (St []):=by simp[World.cell?,R2]
 have R21:w2.cell? ⟨w.heap.size,1,none⟩=some (St []):=by simp[World.cell?,R2]
 have F20:w2.frozen? ⟨w.heap.size,0,none⟩=false:=by simp[World.frozen?,R2]
 have F21:w2.frozen? ⟨w.heap.size,1,none⟩=false:=by simp[World.frozen?,R2]
 have z3:w.heap.size<w2.heap.size:=by omega
 clear R1 hB1 hb2 P2;go_wp21;refine bodyPost_ret (v:=.tuple #[.agg #[St sn,St sd],.int .i64 0]) (by simp[results,Tryz.results57,go_sem,R20,R21,z3]) rfl ⟨rfl,?_⟩
 repeat(first|exact hB2|exact zM _ _|refine Below.alloc ?_ (by simp[World.setCell]<;>omega) _|refine zao ?_ _|refine Below.setCell ?_ (by simp) _)
theorem zp1 (q:Rat) (h:¬zbb q) (hk:okQ q) (hd:q.den=1) (hl:digs q.num<=800000) (hl2:(zD q.den).length<=800000) (w:zA) (hw:Wd w):
 qJ 57 #[St (numS q)] w (.tuple #[.agg #[St (zE q.num),St (zD q.den)],.int .i64 0]):=by
 have hc:=λW hW=>zoh q hl hl2 W hW;have hn:=λW=>zb5 q h hl hl2 W;obtain⟨sn,hsn⟩:=zzX (⟨(zE q.num).toArray⟩:ByteArray);obtain⟨sd,hsd⟩:=zzX (⟨(zD q.den).toArray⟩:ByteArray);obtain⟨own,hown⟩:=zzX (⟨(zD q.num.natAbs).toArray⟩:ByteArray);have htp:∀W:zA,zC zF 38 #[.string sn,.string ⟨#[45]⟩] W λe w'=>e=.returned (.string own)/\w'=W:=by
  intro W;have:=Tryz.strings_TrimPrefix sn ⟨#[45]⟩ W;rw[show sn.data.toList=zE q.num from by rw[hsn],show(⟨#[45]⟩:ByteArray).data.toList=[45] from rfl,zbi] at this;rw[hown];exact this
 have l1:own.size=digs q.num:=by rw[hown];exact zZ
 have l2:sd.size=(zD q.den).length:=by rw[hsd];exact zZ
 have s1:¬(300:Int)<own.size:=by have:=hk.1;omega
 have s2:¬(300:Int)<sd.size:=by have:=hk.2;omega
 have s3:(sd.toList==[49])=true:=by rw[zfo hsd,hd,zae (by omega)];rfl
 have hc:∀W,Wd W->qJ 113 #[St (numS q)] W (.tuple #[.agg #[.string sn,.string sd],.bool true]):=by rw[hsn,hsd];exact hc
 rw[show St (zE q.num)=.string sn from by rw[hsn],show St (zD q.den)=.string sd from by rw[hsd]];generalize numS q=s at hc hn⊢;have HC:=hid hc;have HN:=hid hn;have HW:=hid hw;have TP:=hid htp;clear hc hn hw h hsn hsd hown htp l1 l2 hl hl2 hk hd;go_enter Tryz.func57,Tryz.ntmps57;go_wp21;refine zzM (HC.out _ (HW.out.below ((zM _ w).alloc (zN _) _))) λw1 hb1=>?_;have hB1:qL w w1:=((zM _ w).alloc (zN _) _).trans (hb1.mono (by simp));have z1:w.heap.size<w1.heap.size:=by have:=hb1.size;simp at this;omega
 have R1:w1.heap[w.heap.size]? =some (.cells #[St [],St []] 98 (0,0)):=(hb1.block _ (by simp)).trans (zG w _);clear hb1;go_wp21;refine zzM (HN.out _) λw2 hb2=>?_;have z2:w1.heap.size<w2.heap.size:=by have:=hb2.size;simp at this;omega
 have hB2:qL w w2:=(hB1.alloc hB1.size _).trans (hb2.mono (by simp;omega));have R2:w2.heap[w.heap.size]? =some (.cells #[St [],St []] 98 (0,0)):=(hb2.block _ (by simp;omega)).trans ((Below.heap_alloc _ _ _ (by omega)).trans R1);have P2:w2.heap[w1.heap.size]? =some (.cells #[.string sn,.string sd] 98 (0,0)):=(hb2.block _ (by simp)).trans (zG w1 _);have P20:w2.cell? ⟨w1.heap.size,0,none⟩=some (.string sn):=by simp[World.cell?,P2]
 have P21:w2.cell? ⟨w1.heap.size,1,none⟩=some (.string sd):=by simp[World.cell?,P2]
 have R20:w2.cell? ⟨w.heap.size,0,none⟩=some (St []):=by simp[World.cell?,R2]
 have R21:w2.cell? ⟨w.heap.size,1,none⟩=some (St []):=by simp[World.cell?,R2]
 have F20:w2.frozen? ⟨w.heap.size,0,none⟩=false:=by simp[World.frozen?,R2]
 have F21:w2.frozen? ⟨w.heap.size,1,none⟩=false:=by simp[World.frozen?,R2]
 have z3:w.heap.size<w2.heap.size:=by omega
 clear R1 hB1 hb2;go_wp21;refine(TP.out _).mono ?_;rintro e w3 ⟨rfl,rfl⟩;go_wp21;refine bodyPost_ret (v:=.tuple #[.agg #[.string sn,.string sd],.int .i64 0]) (by simp[results,Tryz.results57,go_sem,R20,R21,z3]) rfl ⟨rfl,?_⟩
 repeat(first|exact hB2|exact zM _ _|refine Below.alloc ?_ (by simp[World.setCell]<;>omega) _|refine zao ?_ _|refine Below.setCell ?_ (by simp) _)
theorem z2c (q:Rat) (h:¬zbb q) (hb:300<digs q.num) (hl:digs q.num<=800000) (hl2:(zD q.den).length<=800000) (w:zA) (hw:Wd w):
 qJ 57 #[St (numS q)] w (.tuple #[.agg #[St [],St []],.int .i64 4]):=by
 have hc:=λW hW=>zoh q hl hl2 W hW;have hn:=λW=>zb5 q h hl hl2 W;obtain⟨sn,hsn⟩:=zzX (⟨(zE q.num).toArray⟩:ByteArray);obtain⟨sd,hsd⟩:=zzX (⟨(zD q.den).toArray⟩:ByteArray);obtain⟨own,hown⟩:=zzX (⟨(zD q.num.natAbs).toArray⟩:ByteArray);have htp:∀W:zA,zC zF 38 #[.string sn,.string ⟨#[45]⟩] W λe w'=>e=.returned (.string own)/\w'=W:=by
  intro W;have:=Tryz.strings_TrimPrefix sn ⟨#[45]⟩ W;rw[show sn.data.toList=zE q.num from by rw[hsn],show(⟨#[45]⟩:ByteArray).data.toList=[45] from rfl,zbi] at this;rw[hown];exact this
 have l1:own.size=digs q.num:=by rw[hown];exact zZ
 have l2:sd.size=(zD q.den).length:=by rw[hsd];exact zZ
 have s1:(300:Int)<own.size:=by omega
 have hc:∀W,Wd W->qJ 113 #[St (numS q)] W (.tuple #[.agg #[.string sn,.string sd],.bool true]):=by rw[hsn,hsd];exact hc
 generalize numS q=s at hc hn⊢;have HC:=hid hc;have HN:=hid hn;have HW:=hid hw;have TP:=hid htp;clear hc hn hw h hsn hsd hown htp l1 l2 hl hl2 hb;go_enter Tryz.func57,Tryz.ntmps57;go_wp21;refine zzM (HC.out _ (HW.out.below ((zM _ w).alloc (zN _) _))) λw1 hb1=>?_;have hB1:qL w w1:=((zM _ w).alloc (zN _) _).trans (hb1.mono (by simp));have z1:w.heap.size<w1.heap.size:=by have:=hb1.size;simp at this;omega
 have R1:w1.heap[w.heap.size]? =some (.cells #[St [],St []] 98 (0,0)):=(hb1.block _ (by simp)).trans (zG w _);clear hb1;go_wp21;refine zzM (HN.out _) λw2 hb2=>?_;have z2:w1.heap.size<w2.heap.size:=by have:=hb2.size;simp at this;omega
 have hB2:qL w w2:=(hB1.alloc hB1.size _).trans (hb2.mono (by simp;omega));have R2:w2.heap[w.heap.size]? =some (.cells #[St [],St []] 98 (0,0)):=(hb2.block _ (by simp;omega)).trans ((Below.heap_alloc _ _ _ (by omega)).trans R1);have P2:w2.heap[w1.heap.size]? =some (.cells #[.string sn,.string sd] 98 (0,0)):=(hb2.block _ (by simp)).trans (zG w1 _);have P20:w2.cell? ⟨w1.heap.size,0,none⟩=some (.string sn):=by simp[World.cell?,P2]
 have P21:w2.cell? ⟨w1.heap.size,1,none⟩=some (.string sd):=by simp[World.cell?,P2]
 have R20:w2.cell? ⟨w.heap.size,0,none⟩=some (St []):=by simp[World.cell?,R2]
 have R21:w2.cell? ⟨w.heap.size,1,none⟩=some (St []):=by simp[World.cell?,R2]
 have F20:w2.frozen? ⟨w.heap.size,0,none⟩=false:=by simp[World.frozen?,R2]
 have F21:w2.frozen? ⟨w.heap.size,1,none⟩=false:=by simp[World.frozen?,R2]
 have z3:w.heap.size<w2.heap.size:=by omega
 clear R1 hB1 hb2;go_wp21;refine(TP.out _).mono ?_;rintro e w3 ⟨rfl,rfl⟩;go_wp21;refine bodyPost_ret (v:=.tuple #[.agg #[St [],St []],.int .i64 4]) (by simp[results,Tryz.results57,go_sem,R20,R21,z3]) rfl ⟨rfl,?_⟩
 repeat(first|exact hB2|exact zM _ _|refine Below.alloc ?_ (by simp[World.setCell]<;>omega) _|refine zao ?_ _|refine Below.setCell ?_ (by simp) _)
theorem z2d (q:Rat) (h:¬zbb q) (hb2:digs q.num<=300) (hb:300<(zD q.den).length) (hl:digs q.num<=800000) (hl2:(zD q.den).length<=800000) (w:zA) (hw:Wd w):
 qJ 57 #[St (numS q)] w (.tuple #[.agg #[St [],St []],.int .i64 4]):=by
 have hc:=λW hW=>zoh q hl hl2 W hW;have hn:=λW=>zb5 q h hl hl2 W;obtain⟨sn,hsn⟩:=zzX (⟨(zE q.num).toArray⟩:ByteArray);obtain⟨sd,hsd⟩:=zzX (⟨(zD q.den).toArray⟩:ByteArray);obtain⟨own,hown⟩:=zzX (⟨(zD q.num.natAbs).toArray⟩:ByteArray);have htp:∀W:zA,zC zF 38 #[.string sn,.string ⟨#[45]⟩] W λe w'=>e=.returned (.string own)/\w'=W:=by
  intro W;have:=Tryz.strings_TrimPrefix sn ⟨#[45]⟩ W;rw[show sn.data.toList=zE q.num from by rw[hsn],show(⟨#[45]⟩:ByteArray).data.toList=[45] from rfl,zbi] at this;rw[hown];exact this
 have l1:own.size=digs q.num:=by rw[hown];exact zZ
 have l2:sd.size=(zD q.den).length:=by rw[hsd];exact zZ
 have s1:¬(300:Int)<own.size:=by omega
 have s2:(300:Int)<sd.size:=by omega
 have hc:∀W,Wd W->qJ 113 #[St (numS q)] W (.tuple #[.agg #[.string sn,.string sd],.bool true]):=by rw[hsn,hsd];exact hc
 generalize numS q=s at hc hn⊢;have HC:=hid hc;have HN:=hid hn;have HW:=hid hw;have TP:=hid htp;clear hc hn hw h hsn hsd hown htp l1 l2 hl hl2 hb hb2;go_enter Tryz.func57,Tryz.ntmps57;go_wp21;refine zzM (HC.out _ (HW.out.below ((zM _ w).alloc (zN _) _))) λw1 hb1=>?_;have hB1:qL w w1:=((zM _ w).alloc (zN _) _).trans (hb1.mono (by simp));have z1:w.heap.size<w1.heap.size:=by have:=hb1.size;simp at this;omega
 have R1:w1.heap[w.heap.size]? =some (.cells #[St [],St []] 98 (0,0)):=(hb1.block _ (by simp)).trans (zG w _);clear hb1;go_wp21;refine zzM (HN.out _) λw2 hb2=>?_;have z2:w1.heap.size<w2.heap.size:=by have:=hb2.size;simp at this;omega
 have hB2:qL w w2:=(hB1.alloc hB1.size _).trans (hb2.mono (by simp;omega));have R2:w2.heap[w.heap.size]? =some (.cells #[St [],St []] 98 (0,0)):=(hb2.block _ (by simp;omega)).trans ((Below.heap_alloc _ _ _ (by omega)).trans R1);have P2:w2.heap[w1.heap.size]? =some (.cells #[.string sn,.string sd] 98 (0,0)):=(hb2.block _ (by simp)).trans (zG w1 _);have P20:w2.cell? ⟨w1.heap.size,0,none⟩=some (.string sn):=by simp[World.cell?,P2]
 have P21:w2.cell? ⟨w1.heap.size,1,none⟩=some (.string sd):=by simp[World.cell?,P2]
 have R20:w2.cell? ⟨w.heap.size,0,none⟩=some (St []):=by simp[World.cell?,R2]
 have R21:w2.cell? ⟨w.heap.size,1,none⟩=some (St []):=by simp[World.cell?,R2]
 have F20:w2.frozen? ⟨w.heap.size,0,none⟩=false:=by simp[World.frozen?,R2]
 have F21:w2.frozen? ⟨w.heap.size,1,none⟩=false:=by simp[World.frozen?,R2]
 have z3:w.heap.size<w2.heap.size:=by omega
 clear R1 hB1 hb2;go_wp21;refine(TP.out _).mono ?_;rintro e w3 ⟨rfl,rfl⟩;go_wp21;refine bodyPost_ret (v:=.tuple #[.agg #[St [],St []],.int .i64 4]) (by simp[results,Tryz.results57,go_sem,R20,R21,z3]) rfl ⟨rfl,?_⟩
 repeat(first|exact hB2|exact zM _ _|refine Below.alloc ?_ (by simp[World.setCell]<;>omega) _|refine zao ?_ _|refine Below.setCell ?_ (by simp) _)
theorem zoi (q:Rat) (h:¬zbb q) (hk:okQ q) (hd:q.den≠1) (hl:digs q.num<=800000) (hl2:(zD q.den).length<=800000) (w:zA) (hw:Wd w):
 qJ 57 #[St (numS q)] w (.tuple #[.agg #[St (zE q.num),St (zD q.den)],.int .i64 0]):=by
 have hc:=λW hW=>zoh q hl hl2 W hW;have hn:=λW=>zb5 q h hl hl2 W;obtain⟨sn,hsn⟩:=zzX (⟨(zE q.num).toArray⟩:ByteArray);obtain⟨sd,hsd⟩:=zzX (⟨(zD q.den).toArray⟩:ByteArray);obtain⟨own,hown⟩:=zzX (⟨(zD q.num.natAbs).toArray⟩:ByteArray);have htp:∀W:zA,zC zF 38 #[.string sn,.string ⟨#[45]⟩] W λe w'=>e=.returned (.string own)/\w'=W:=by
  intro W;have:=Tryz.strings_TrimPrefix sn ⟨#[45]⟩ W;rw[show sn.data.toList=zE q.num from by rw[hsn],show(⟨#[45]⟩:ByteArray).data.toList=[45] from rfl,zbi] at this;rw[hown];exact this
 have l1:own.size=digs q.num:=by rw[hown];exact zZ
 have l2:sd.size=(zD q.den).length:=by rw[hsd];exact zZ
 have s1:¬(300:Int)<own.size:=by have:=hk.1;omega
 have s2:¬(300:Int)<sd.size:=by have:=hk.2;omega
 have s3:(sd.toList==[49])=false:=zhl hsd 1 (by omega) hd;have hg:qK 68 #[.string sn,.string sd] (.tuple #[St [49],.int .i64 0]):=by
  intro W hW;have h2:digs (q.den:Int)<=300:=hk.2;have:=ztw q.num q.den hk.1 h2 W hW;rw[show(Int.gcd q.num (q.den:Int):Int)=1 from by have:=q.reduced;unfold Int.gcd;rw[Int.natAbs_natCast];unfold Nat.Coprime at this;rw[this];rfl,zmn,Str.zad q.den] at this;rw[hsn,hsd];exact this
 have hc:∀W,Wd W->qJ 113 #[St (numS q)] W (.tuple #[.agg #[.string sn,.string sd],.bool true]):=by rw[hsn,hsd];exact hc
 rw[show St (zE q.num)=.string sn from by rw[hsn],show St (zD q.den)=.string sd from by rw[hsd]];generalize numS q=s at hc hn⊢;have HC:=hid hc;have HN:=hid hn;have HW:=hid hw;have TP:=hid htp;have GC:=hid hg;clear hc hn hw h hsn hsd hown htp hg l1 l2 hl hl2 hk hd;go_enter Tryz.func57,Tryz.ntmps57;go_wp21;refine zzM (HC.out _ (HW.out.below ((zM _ w).alloc (zN _) _))) λw1 hb1=>?_;have hB1:qL w w1:=((zM _ w).alloc (zN _) _).trans (hb1.mono (by simp));have z1:w.heap.size<w1.heap.size:=by have:=hb1.size;simp at this;omega
 have R1:w1.heap[w.heap.size]? =some (.cells #[St [],St []] 98 (0,0)):=(hb1.block _ (by simp)).trans (zG w _);clear hb1;go_wp21;refine zzM (HN.out _) λw2 hb2=>?_;have z2:w1.heap.size<w2.heap.size:=by have:=hb2.size;simp at this;omega
 have hB2:qL w w2:=(hB1.alloc hB1.size _).trans (hb2.mono (by simp;omega));have R2:w2.heap[w.heap.size]? =some (.cells #[St [],St []] 98 (0,0)):=(hb2.block _ (by simp;omega)).trans ((Below.heap_alloc _ _ _ (by omega)).trans R1);have P2:w2.heap[w1.heap.size]? =some (.cells #[.string sn,.string sd] 98 (0,0)):=(hb2.block _ (by simp)).trans (zG w1 _);have P20:w2.cell? ⟨w1.heap.size,0,none⟩=some (.string sn):=by simp[World.cell?,P2]
 have P21:w2.cell? ⟨w1.heap.size,1,none⟩=some (.string sd):=by simp[World.cell?,P2]
 have R20:w2.cell? ⟨w.heap.size,0,none⟩=some (St []):=by simp[World.cell?,R2]
 have R21:w2.cell? ⟨w.heap.size,1,none⟩=some (St []):=by simp[World.cell?,R2]
 have F20:w2.frozen? ⟨w.heap.size,0,none⟩=false:=by simp[World.frozen?,R2]
 have F21:w2.frozen? ⟨w.heap.size,1,none⟩=false:=by simp[World.frozen?,R2]
 have z3:w.heap.size<w2.heap.size:=by omega
 clear R1 hB1 hb2;go_wp21;refine(TP.out _).mono ?_;rintro e w3 ⟨rfl,rfl⟩;go_wp21;have hb3':qL w (w2.alloc (.cells #[.int .i64 0,.int .i64 0] 93)):=hB2.alloc hB2.size _;refine zzM (GC.out _ (HW.out.below hb3')) λw3 hb3=>?_;have z4:w2.heap.size<w3.heap.size:=by have:=hb3.size;simp at this;omega
 have hB3:=hb3'.trans (hb3.mono (by simp;omega));have R3:w3.heap[w.heap.size]? =some (.cells #[St [],St []] 98 (0,0)):=(hb3.block _ (by simp;omega)).trans ((Below.heap_alloc _ _ _ (by omega)).trans R2);have P3:w3.heap[w1.heap.size]? =some (.cells #[.string sn,.string sd] 98 (0,0)):=(hb3.block _ (by simp;omega)).trans ((Below.heap_alloc _ _ _ (by omega)).trans P2);clear P20 P21 R20 R21 F20 F21;have P20:w3.cell? ⟨w1.heap.size,0,none⟩=some (.string sn):=by simp[World.cell?,P3]
 have P21:w3.cell? ⟨w1.heap.size,1,none⟩=some (.string sd):=by simp[World.cell?,P3]
 have R20:w3.cell? ⟨w.heap.size,0,none⟩=some (St []):=by simp[World.cell?,R3]
 have R21:w3.cell? ⟨w.heap.size,1,none⟩=some (St []):=by simp[World.cell?,R3]
 have F20:w3.frozen? ⟨w.heap.size,0,none⟩=false:=by simp[World.frozen?,R3]
 have F21:w3.frozen? ⟨w.heap.size,1,none⟩=false:=by simp[World.frozen?,R3]
 have z5:w.heap.size<w3.heap.size:=by omega
 clear R2 P2 R3 P3 hb3 hb3' hB2;go_wp21;refine bodyPost_ret (v:=.tuple #[.agg #[.string sn,.string sd],.int .i64 0]) (by simp[results,Tryz.results57,go_sem,R20,R21]) rfl ⟨rfl,?_⟩
 repeat(first|exact hB3|exact zM _ _|refine Below.alloc ?_ (by simp[World.setCell,World.drewN]<;>omega) _|refine zao ?_ _|refine Below.setCell ?_ (by simp) _)
theorem zek (q:Rat) (h:okQ q) (w:zA) (hw:Wd w):
 qJ 57 #[St (numS q)] w (.tuple #[.agg #[St (zE q.num),St (zD q.den)],.int .i64 0]):=by
 by_cases hs:zbb q
 ·exact zu2 q hs w hw
 ·by_cases hd:q.den=1
  ·exact zp1 q hs h hd (zO h.1 (by omega)) (zO h.2 (by omega)) w hw
  ·exact zoi q hs h hd (zO h.1 (by omega)) (zO h.2 (by omega)) w hw
theorem z64 (q:Rat) (h:¬okQ q) (hl:digs q.num<=800000) (hl2:(zD q.den).length<=800000) (w:zA) (hw:Wd w):
 qJ 57 #[St (numS q)] w (.tuple #[.agg #[St [],St []],.int .i64 4]):=by
 have hs:¬zbb q:=λhs=>h (z63 hs);by_cases h1:digs q.num<=300
 ·have h2:300<(zD q.den).length:=by
   rcases Nat.lt_or_ge 300 (zD q.den).length with h'|h'
   ·exact h'
   ·exact absurd ⟨h1,h'⟩ h
  exact z2d q hs h1 h2 hl hl2 w hw
 ·exact z2c q hs (by omega) hl hl2 w hw
theorem zfj (q:Rat) (h:okQ q) (w:zA) (hw:Wd w):
 qJ 36 #[St (numS q)] w (.int .i64 0):=by
 have hc:=λW hW=>zek q h W hW;generalize numS q=s at hc⊢;have HC:=hid hc;clear hc h;go_enter Tryz.func36,Tryz.ntmps36;go_wp21;refine zzM (HC.out _ hw) λw1 hb1=>?_;go_wp21;go_ret;exact⟨rfl,hb1.alloc hb1.size _⟩
theorem zww (a:List UInt8):Value.string ((⟨#[45]⟩:ByteArray)++(⟨a.toArray⟩:ByteArray))=St (45::a):=by
 congr 1
theorem zk3 (x:Int) (hx:digs x<=800000) (w:zA):
 qJ 67 #[St (zE x)] w (St (zE (-x))):=by
 obtain⟨s,hs⟩:=zzX (⟨(zE x).toArray⟩:ByteArray);obtain⟨own,hown⟩:=zzX (⟨(zD x.natAbs).toArray⟩:ByteArray);have hcp:∀W:zA,zC zF 129 #[.string s,.string ⟨#[45]⟩] W λe w'=>e=.returned (.tuple #[.string own,.bool (decide (x<0))])/\w'=W:=by
  intro W;have:=Tryz.strings_CutPrefix s ⟨#[45]⟩ W;rw[show s.data.toList=zE x from by rw[hs],show(⟨#[45]⟩:ByteArray).data.toList=[45] from rfl,zbi,zdx] at this;rw[hown];exact this
 have z:s.size<=800001:=by
  rw[hs];show(zE x).toArray.size<=_;have:=za7 x;simp;omega
 have HCP:=hid hcp;rw[show St (zE x)=.string s from by rw[hs]];rcases Int.lt_trichotomy x 0 with hn|h0|hp
 ·have ho:St (zE (-x))=.string own:=by rw[hown,show-x=((x.natAbs:Nat):Int) from by omega,Str.zad]
  have ht:(s.toList==[48])=false:=by
   rw[beq_eq_false_iff_ne,zfo hs];intro e;have:=zdo (e.trans zb9.symm);omega
  rw[ho];rw[decide_eq_true hn] at hcp;have HCP:=hid hcp;clear ho hs hown hcp hn hx;go_enter Tryz.func67,Tryz.ntmps67;go_wp21;refine(HCP.out _).mono ?_;rintro e w1 ⟨rfl,rfl⟩;go_wp21;go_ret;exact⟨rfl,zM _ _⟩
 ·subst h0
  have ht:(s.toList==[48])=true:=by rw[zfo hs,zb9];rfl
  rw[show-(0:Int)=0 from rfl,show St (zE 0)=.string s from by rw[hs]];clear hs hown hcp hx;go_enter Tryz.func67,Tryz.ntmps67;go_wp21;go_ret;exact⟨rfl,zM _ _⟩
 ·have ho:St (zE (-x))=.string ((⟨#[45]⟩:ByteArray)++s):=by
   rw[hs,zww,show x=((x.natAbs:Nat):Int) from by omega,Str.zga _ (by omega),Str.zad]
  have ht:(s.toList==[48])=false:=by
   rw[beq_eq_false_iff_ne,zfo hs];intro e;have:=zdo (e.trans zb9.symm);omega
  rw[ho];rw[decide_eq_false (by omega)] at hcp;have HCP:=hid hcp;clear ho hs hown hcp hp hx;go_enter Tryz.func67,Tryz.ntmps67;go_wp21;refine(HCP.out _).mono ?_;rintro e w1 ⟨rfl,rfl⟩;go_wp21;go_ret;exact⟨rfl,zM _ _⟩
theorem zg1 (a b sx sy sg sqn sqd res:ByteArray) (neg:Bool) (hp:∀W:zA,zC zF 39 #[.string b,.string ⟨#[45]⟩] W λe w'=>e=.returned (.bool neg)/\w'=W)
 (op:(neg=false/\sx=a/\sy=b)\/(neg=true/\Hid (qK 67 #[.string a] (.string sx))/\
   Hid (qK 67 #[.string b] (.string sy))))
 (gc:qK 68 #[.string sx,.string sy] (.tuple #[.string sg,.int .i64 0]))
 (h:((sg.toList==[49])=true/\(sy.toList==[49])=true/\res=sx)\/((sg.toList==[49])=true/\(sy.toList==[49])=false/\sx.size<=400/\sy.size<=400/\res=sx++⟨#[47]⟩++sy)\/
   ((sg.toList==[49])=false/\Hid (qK 69 #[.string sx,.string sg] (.tuple #[.string sqn,St [48],.int .i64 0]))/\
     Hid (qK 69 #[.string sy,.string sg] (.tuple #[.string sqd,St [48],.int .i64 0]))/\
     (((sqd.toList==[49])=true/\res=sqn)\/((sqd.toList==[49])=false/\sqn.size<=400/\sqd.size<=400/\res=sqn++⟨#[47]⟩++sqd))))
 (w:zA) (hw:Wd w):
 qJ 34 #[.string a,.string b] w (.tuple #[.string res,.int .i64 0]):=by
 have HP:=hid hp;have GC:=hid gc;have HW:=hid hw;clear hp gc hw;rcases op with⟨rfl,rfl,rfl⟩|⟨rfl,OPX,OPY⟩<;>rcases h with⟨g1,d1,rfl⟩|⟨g1,d1,z1,z2,rfl⟩|⟨g1,DVN,DVD,⟨d1,rfl⟩|⟨d1,z1,z2,rfl⟩⟩
 all_goals
  have HB:=hid (zM w.heap.size w);go_enter Tryz.func34,Tryz.ntmps34;go_wp21;refine(HP.out _).mono ?_;rintro e w0 ⟨rfl,rfl⟩;go_wp21
  try
   refine zzM (OPX.out _ (HW.out.below HB.out)) λw1 hb=>?_;replace HB:=qT HB hb;clear hb;go_wp21;refine zzM (OPY.out _ (HW.out.below HB.out)) λw2 hb=>?_;replace HB:=qT HB hb;clear hb;go_wp21
  refine zzM (GC.out _ (HW.out.below HB.out)) λw3 hb=>?_;replace HB:=qT HB hb;clear hb;go_wp21
  try
   refine zzM (DVN.out _ (HW.out.below HB.out)) λw4 hb=>?_;replace HB:=qT HB hb;clear hb;go_wp21;refine zzM (DVD.out _ (HW.out.below HB.out)) λw5 hb=>?_;replace HB:=qT HB hb;clear hb;go_wp21
  go_ret2;exact⟨rfl,HB.out⟩
theorem zgf {l:List UInt8} {s:ByteArray} (h:s=⟨l.toArray⟩):St l=.string s:=by rw[h]
theorem zh2 {n:Int} {s:ByteArray} (hs:s=⟨(zE n).toArray⟩) (b:Bool) (h:(n=1)↔b=true):(s.toList==[49])=b:=by
 rw[zfo hs]
 cases b with
 |true=>rw[beq_iff_eq,h.2 rfl,zmn]
 |false=>rw[beq_eq_false_iff_ne];intro e;exact absurd (h.1 (zdo (e.trans zmn.symm))) (by simp)
theorem zj2 {x y:Int} (h:x.natAbs<=y.natAbs):digs x<=digs y:=by
 unfold digs;have hy:=(zaf y.natAbs (digs y) (zbn y)).1 (zN _);exact(zaf x.natAbs (digs y) (zbn y)).2 (Nat.lt_of_le_of_lt h hy)
theorem zfa (x y:Int) (hy:y≠0) (hx3:digs x<=300) (hy3:digs y<=300) (w:zA) (hw:Wd w):
 qJ 34 #[St (zE x),St (zE y)] w (.tuple #[St (numS (Rat.divInt x y)),.int .i64 0]):=by
 obtain⟨a,ha⟩:=zzX (⟨(zE x).toArray⟩:ByteArray);obtain⟨b,hb⟩:=zzX (⟨(zE y).toArray⟩:ByteArray);rw[zgf ha,zgf hb];have hhp:∀W:zA,zC zF 39 #[.string b,.string ⟨#[45]⟩] W λe w'=>e=.returned (.bool (decide (y<0)))/\w'=W:=by
  intro W;have:=Tryz.strings_HasPrefix b ⟨#[45]⟩ W;rw[show b.data.toList=zE y from by rw[hb],show(⟨#[45]⟩:ByteArray).data.toList=[45] from rfl,zdx] at this;exact this
 have key:∀X Y:Int,0<Y->Rat.divInt X Y=Rat.divInt x y->digs X<=300->digs Y<=300->(∀sx sy:ByteArray,sx=⟨(zE X).toArray⟩->sy=⟨(zE Y).toArray⟩->(decide (y<0)=false/\sx=a/\sy=b)\/(decide (y<0)=true/\Hid (qK 67 #[.string a] (.string sx))/\
  Hid (qK 67 #[.string b] (.string sy))))->
  qJ 34 #[.string a,.string b] w (.tuple #[St (numS (Rat.divInt x y)),.int .i64 0]):=by
  intro X Y hY hXY hX3 hY3 H;obtain⟨g,hg⟩:=zzX (Int.gcd X Y:Nat);have hg0:0<g:=by rw[hg];exact Int.gcd_pos_of_ne_zero_right _ (by omega)
  have hgX:(g:Int)∣X:=by rw[hg];exact Int.gcd_dvd_left _ _
  have hgY:(g:Int)∣Y:=by rw[hg];exact Int.gcd_dvd_right _ _
  have hm:=zif X Y hY;rw[hXY,<-hg] at hm;have hXe:X=X/(g:Int)*g:=(Int.ediv_mul_cancel hgX).symm;have hYe:Y=Y/(g:Int)*g:=(Int.ediv_mul_cancel hgY).symm;have hqn3:digs (X/(g:Int))<=300:=zO (zj2 (by rw[Int.natAbs_ediv_of_dvd hgX];exact Nat.div_le_self _ _)) hX3;have hqd3:digs (Y/(g:Int))<=300:=zO (zj2 (by rw[Int.natAbs_ediv_of_dvd hgY];exact Nat.div_le_self _ _)) hY3;have hg3:digs (g:Int)<=300:=zO (zj2 (by have:=Int.le_of_dvd hY hgY;omega)) hY3;have hsz:∀(z:Int) (s:ByteArray),s=⟨(zE z).toArray⟩->digs z<=300->s.size<=400:=by
   intro z s hs hz;have h1:=za7 z;have:s.size=(zE z).length:=by rw[hs];exact zZ
   omega
  obtain⟨sx,hsx⟩:=zzX (⟨(zE X).toArray⟩:ByteArray);obtain⟨sy,hsy⟩:=zzX (⟨(zE Y).toArray⟩:ByteArray);obtain⟨sg,hsg⟩:=zzX (⟨(zE (g:Int)).toArray⟩:ByteArray);obtain⟨sqn,hsqn⟩:=zzX (⟨(zE (X/(g:Int))).toArray⟩:ByteArray);obtain⟨sqd,hsqd⟩:=zzX (⟨(zE (Y/(g:Int))).toArray⟩:ByteArray);have hgc:qK 68 #[.string sx,.string sy] (.tuple #[.string sg,.int .i64 0]):=by
   intro W hW;have:=ztw X Y hX3 hY3 W hW;rw[hsx,hsy,hsg,hg];exact this
  have hdn:qK 69 #[.string sx,.string sg] (.tuple #[.string sqn,St [48],.int .i64 0]):=by
   intro W hW;have:=zky X g _ hXe (by omega) hX3 hg3 W hW;rw[hsx,hsg,hsqn];exact this
  have hdd:qK 69 #[.string sy,.string sg] (.tuple #[.string sqd,St [48],.int .i64 0]):=by
   intro W hW;have:=zky Y g _ hYe (by omega) hY3 hg3 W hW;rw[hsy,hsg,hsqd];exact this
  have hres:∃res:ByteArray,St (numS (Rat.divInt x y))=.string res:=⟨_,rfl⟩;obtain⟨res,hr⟩:=hres;rw[hr];refine zg1 a b sx sy sg sqn sqd res _ hhp (H sx sy hsx hsy) hgc ?_ w hw;have hsg1:=λb h=>zh2 hsg b h;have hres':∀r:ByteArray,Value.string r=St (numS (Rat.divInt x y))->res=r:=λr h=>by rw[hr] at h;injection h with h;exact h.symm
  by_cases hg1:g=1
  ·have eX:X/(g:Int)=X:=by rw[hg1];exact Int.ediv_one X
   have eY:Y/(g:Int)=Y:=by rw[hg1];exact Int.ediv_one Y
   rw[eX,eY] at hm;have h1:=hsg1 true (by simp[hg1]);by_cases hY1:Y=1
   ·refine .inl ⟨h1,zh2 hsy true (by simp[hY1]),hres' _ ?_⟩
    rw[hm,if_pos hY1,List.append_nil,hsx]
   ·refine .inr (.inl ⟨h1,zh2 hsy false (by simp[hY1]),hsz _ _ hsx hX3,hsz _ _ hsy hY3,hres' _ ?_⟩)
    rw[hm,if_neg hY1,hsx,hsy,zik]
  ·refine .inr (.inr ⟨hsg1 false (by simp;omega),hid hdn,hid hdd,?_⟩)
   by_cases hY1:Y/(g:Int)=1
   ·refine .inl ⟨zh2 hsqd true (by simp[hY1]),hres' _ ?_⟩
    rw[hm,if_pos hY1,List.append_nil,hsqn]
   ·refine .inr ⟨zh2 hsqd false (by simp[hY1]),hsz _ _ hsqn hqn3,hsz _ _ hsqd hqd3,hres' _ ?_⟩
    rw[hm,if_neg hY1,hsqn,hsqd,zik]
 rcases Int.lt_or_lt_of_ne hy with hn|hp
 ·refine key (-x) (-y) (by omega) ?_ (by unfold digs at*;rw[Int.natAbs_neg];exact hx3) (by unfold digs at*;rw[Int.natAbs_neg];exact hy3) (λsx sy hsx hsy=>.inr ⟨decide_eq_true hn,hid λW _=>?_,hid λW _=>?_⟩)
  ·rw[zjd x y hn,show-y=((y.natAbs:Nat):Int) from by omega]
  ·rw[ha,hsx];exact zk3 x (by omega) W
  ·rw[hb,hsy];exact zk3 y (by omega) W
 ·exact key x y hp rfl hx3 hy3 λsx sy hsx hsy=>.inl ⟨decide_eq_false (by omega),by rw[hsx,ha],by rw[hsy,hb]⟩
theorem zbs {x y:Int} (hx: -100000000<x/\x<100000000) (hy: -100000000<y/\y<100000000): -10000000000000000<x*y/\x*y<10000000000000000:=by
 have h1:x.natAbs<=99999999:=by omega
 have h2:y.natAbs<=99999999:=by omega
 have h3:(x*y).natAbs<=99999999*99999999:=by rw[Int.natAbs_mul];exact Nat.mul_le_mul h1 h2
 omega
theorem nadd (n1 d1 n2 d2:Int) (a1: -100000000<n1/\n1<100000000) (b1: -100000000<d1/\d1<100000000) (a2: -100000000<n2/\n2<100000000) (b2: -100000000<d2/\d2<100000000) (w:zA):
 qJ 107 #[.agg #[.int .i64 n1,.int .i64 d1],.agg #[.int .i64 n2,.int .i64 d2]] w (.agg #[.int .i64 (n1*d2+n2*d1),.int .i64 (d1*d2)]):=by
 have p0:=zbs a1 b2;have v0:IntKind.i64.wrap (n1*d2)=n1*d2:=zI _ (by omega);have p1:=zbs a2 b1;have v1:IntKind.i64.wrap (n2*d1)=n2*d1:=zI _ (by omega);have p2:=zbs b1 b2;have v2:IntKind.i64.wrap (d1*d2)=d1*d2:=zI _ (by omega);have v3:IntKind.i64.wrap (n1*d2+n2*d1)=n1*d2+n2*d1:=zI _ (by omega);clear p0 p1 p2;clear a1 b1 a2 b2;go_enter Tryz.func107,Tryz.ntmps107;go_wp21;refine bodyPost_ret (v:=.agg #[.int .i64 (n1*d2+n2*d1),.int .i64 (d1*d2)]) (by simp[results,Tryz.results107,go_sem]) rfl ⟨rfl,?_⟩
 repeat(first|exact zM _ _|refine Below.alloc ?_ (by simp<;>omega) _|refine zao ?_ _|refine Below.setCell ?_ (by simp<;>omega) _)
theorem nsub (n1 d1 n2 d2:Int) (a1: -100000000<n1/\n1<100000000) (b1: -100000000<d1/\d1<100000000) (a2: -100000000<n2/\n2<100000000) (b2: -100000000<d2/\d2<100000000) (w:zA):
 qJ 172 #[.agg #[.int .i64 n1,.int .i64 d1],.agg #[.int .i64 n2,.int .i64 d2]] w (.agg #[.int .i64 (n1*d2-n2*d1),.int .i64 (d1*d2)]):=by
 have p0:=zbs a1 b2;have v0:IntKind.i64.wrap (n1*d2)=n1*d2:=zI _ (by omega);have p1:=zbs a2 b1;have v1:IntKind.i64.wrap (n2*d1)=n2*d1:=zI _ (by omega);have p2:=zbs b1 b2;have v2:IntKind.i64.wrap (d1*d2)=d1*d2:=zI _ (by omega);have v3:IntKind.i64.wrap (n1*d2-n2*d1)=n1*d2-n2*d1:=zI _ (by omega);clear p0 p1 p2;clear a1 b1 a2 b2;go_enter Tryz.func172,Tryz.ntmps172;go_wp21;refine bodyPost_ret (v:=.agg #[.int .i64 (n1*d2-n2*d1),.int .i64 (d1*d2)]) (by simp[results,Tryz.results172,go_sem]) rfl ⟨rfl,?_⟩
 repeat(first|exact zM _ _|refine Below.alloc ?_ (by simp<;>omega) _|refine zao ?_ _|refine Below.setCell ?_ (by simp<;>omega) _)
theorem nmul (n1 d1 n2 d2:Int) (a1: -100000000<n1/\n1<100000000) (b1: -100000000<d1/\d1<100000000) (a2: -100000000<n2/\n2<100000000) (b2: -100000000<d2/\d2<100000000) (w:zA):
 qJ 103 #[.agg #[.int .i64 n1,.int .i64 d1],.agg #[.int .i64 n2,.int .i64 d2]] w (.agg #[.int .i64 (n1*n2),.int .i64 (d1*d2)]):=by
 have p0:=zbs a1 a2;have v0:IntKind.i64.wrap (n1*n2)=n1*n2:=zI _ (by omega);have p1:=zbs b1 b2;have v1:IntKind.i64.wrap (d1*d2)=d1*d2:=zI _ (by omega);clear p0 p1;clear a1 b1 a2 b2;go_enter Tryz.func103,Tryz.ntmps103;go_wp21;refine bodyPost_ret (v:=.agg #[.int .i64 (n1*n2),.int .i64 (d1*d2)]) (by simp[results,Tryz.results103,go_sem]) rfl ⟨rfl,?_⟩
 repeat(first|exact zM _ _|refine Below.alloc ?_ (by simp<;>omega) _|refine zao ?_ _|refine Below.setCell ?_ (by simp<;>omega) _)
theorem ndiv (n1 d1 n2 d2:Int) (a1: -100000000<n1/\n1<100000000) (b1: -100000000<d1/\d1<100000000) (a2: -100000000<n2/\n2<100000000) (b2: -100000000<d2/\d2<100000000) (w:zA):
 qJ 271 #[.agg #[.int .i64 n1,.int .i64 d1],.agg #[.int .i64 n2,.int .i64 d2]] w (.agg #[.int .i64 (n1*d2),.int .i64 (d1*n2)]):=by
 have p0:=zbs a1 b2;have v0:IntKind.i64.wrap (n1*d2)=n1*d2:=zI _ (by omega);have p1:=zbs b1 a2;have v1:IntKind.i64.wrap (d1*n2)=d1*n2:=zI _ (by omega);clear p0 p1;clear a1 b1 a2 b2;go_enter Tryz.func271,Tryz.ntmps271;go_wp21;refine bodyPost_ret (v:=.agg #[.int .i64 (n1*d2),.int .i64 (d1*n2)]) (by simp[results,Tryz.results271,go_sem]) rfl ⟨rfl,?_⟩
 repeat(first|exact zM _ _|refine Below.alloc ?_ (by simp<;>omega) _|refine zao ?_ _|refine Below.setCell ?_ (by simp<;>omega) _)
theorem zhc (n1 n2:Int) (d1 d2:Nat) (h1:digs n1<=300) (h2:digs n2<=300) (h3:(zD d1).length<=300) (h4:(zD d2).length<=300) (k1:digs (n1*d2)<=300) (w:zA) (hw:Wd w):
 zC zF 58 #[.agg #[St (zE n1),St (zD d1)],.agg #[St (zE n2),St (zD d2)]] w λe w'=>
  e=.returned (.tuple #[St (zE (n1*d2)),St (resL (n2*d1)),.int .i64 (resE (n2*d1))])/\zB w.heap.size w w':=by
 have m1:=λW hW=>zhk n1 d2 h1 (by unfold digs;rw[Int.natAbs_natCast];exact h4) W hW;have m2:=λW hW=>zhk n2 d1 h2 (by unfold digs;rw[Int.natAbs_natCast];exact h3) W hW;rw[zcf k1,zcg k1,Str.zad] at m1;rw[Str.zad] at m2;generalize zE n1=s1 at m1⊢;generalize zE n2=s2 at m2⊢;generalize zD d1=t1 at m2⊢;generalize zD d2=t2 at m1⊢;generalize zE (n1*d2)=u at m1⊢;generalize resL (n2*d1)=v at m2⊢;generalize resE (n2*d1)=x at m2⊢;have M1:=hid m1;have M2:=hid m2;have HW:=hid hw;clear m1 m2 hw h1 h2 h3 h4 k1;obtain⟨W3,hW3⟩:=zzX ((w.alloc (.cells #[St s1,St t1] 98)).alloc (.cells #[St s2,St t2] 98));have hB0:qL w W3:=by rw[hW3];exact((zM _ w).alloc (zN _) _).alloc (by simp) _
 have z0:W3.heap.size=w.heap.size+1+1:=by rw[hW3];simp
 have A3:W3.heap[w.heap.size]? =some (.cells #[St s1,St t1] 98 (0,0)):=by
  rw[hW3];exact(Below.heap_alloc _ _ _ (by simp only[zH];omega)).trans (zG w _)
 have B3:W3.heap[w.heap.size+1]? =some (.cells #[St s2,St t2] 98 (0,0)):=by
  have:=zG (w.alloc (.cells #[St s1,St t1] 98)) (.cells #[St s2,St t2] 98 (0,0));rw[zH] at this;rw[hW3];exact this
 have HW3:=hid hW3;clear hW3;go_enter Tryz.func58,Tryz.ntmps58;go_wp21;rw[<-HW3.out];refine zzM (M1.out _ (HW.out.below hB0)) λw4 hb4=>?_;have hB4:=hB0.trans (hb4.mono hB0.size);have A4:w4.heap[w.heap.size]? =some (.cells #[St s1,St t1] 98 (0,0)):=(hb4.block _ (by omega)).trans A3;have B4:w4.heap[w.heap.size+1]? =some (.cells #[St s2,St t2] 98 (0,0)):=(hb4.block _ (by omega)).trans B3;have A41:w4.cell? ⟨w.heap.size,1,none⟩=some (St t1):=by simp[World.cell?,A4]
 have B40:w4.cell? ⟨w.heap.size+1,0,none⟩=some (St s2):=by simp[World.cell?,B4]
 clear hb4 A3 B3 z0;go_wp21;refine zzM (M2.out _ (HW.out.below hB4)) λw5 hb5=>?_;have hB5:=hB4.trans (hb5.mono hB4.size);clear hb5 A4 B4 A41 B40;go_wp21;go_ret3;exact⟨rfl,hB5⟩
theorem zd9 (n:Nat):digs (n:Int)=(zD n).length:=by unfold digs;rw[Int.natAbs_natCast]
def zb1 (q:Rat):Value:=.agg #[St (zE q.num),St (zD q.den)]
theorem zt7 (a b:Rat) (ha:okQ a) (hb:okQ b) (h1:digs (a.num*b.num)<=300) (h2:(zD (a.den*b.den)).length<=300) (w:zA) (hw:Wd w):
 qJ 105 #[zb1 a,zb1 b] w (.tuple #[St (numS (a*b)),.int .i64 0]):=by
 have m1:=λW hW=>zhk a.num b.num ha.1 hb.1 W hW;have m2:=λW hW=>zhk (a.den:Int) (b.den:Int) (by rw[zd9];exact ha.2) (by rw[zd9];exact hb.2) W hW;rw[<-Int.natCast_mul,Str.zad,Str.zad] at m2;have h2':digs ((a.den*b.den:Nat):Int)<=300:=by rw[zd9];exact h2
 rw[zcf h1,zcg h1] at m1;rw[zcf h2',zcg h2'] at m2;have hn:=λW hW=>zfa (a.num*b.num) ((a.den*b.den:Nat):Int) (by have:=Nat.mul_pos a.den_pos b.den_pos;omega) h1 h2' W hW;rw[<-zf1] at hn;unfold zb1;generalize zE a.num=s1 at m1⊢;generalize zE b.num=s2 at m1⊢;generalize zD a.den=t1 at m2⊢;generalize zD b.den=t2 at m2⊢;generalize zE (a.num*b.num)=u at m1 hn;generalize zE ((a.den*b.den:Nat):Int)=v at m2 hn;generalize numS (a*b)=r at hn⊢;have M1:=hid m1;have M2:=hid m2;have HN:=hid hn;have HW:=hid hw;clear m1 m2 hn hw h1 h2 h2' ha hb;obtain⟨W3,hW3⟩:=zzX ((w.alloc (.cells #[St s1,St t1] 98)).alloc (.cells #[St s2,St t2] 98));have hB0:qL w W3:=by rw[hW3];exact((zM _ w).alloc (zN _) _).alloc (by simp) _
 have z0:W3.heap.size=w.heap.size+1+1:=by rw[hW3];simp
 have A3:W3.heap[w.heap.size]? =some (.cells #[St s1,St t1] 98 (0,0)):=by
  rw[hW3];exact(Below.heap_alloc _ _ _ (by simp only[zH];omega)).trans (zG w _)
 have B3:W3.heap[w.heap.size+1]? =some (.cells #[St s2,St t2] 98 (0,0)):=by
  have:=zG (w.alloc (.cells #[St s1,St t1] 98)) (.cells #[St s2,St t2] 98 (0,0));rw[zH] at this;rw[hW3];exact this
 have HW3:=hid hW3;clear hW3;go_enter Tryz.func105,Tryz.ntmps105;go_wp21;rw[<-HW3.out];refine zzM (M1.out _ (HW.out.below hB0)) λw4 hb4=>?_;have hB4:=hB0.trans (hb4.mono hB0.size);have A4:w4.heap[w.heap.size]? =some (.cells #[St s1,St t1] 98 (0,0)):=(hb4.block _ (by omega)).trans A3;have B4:w4.heap[w.heap.size+1]? =some (.cells #[St s2,St t2] 98 (0,0)):=(hb4.block _ (by omega)).trans B3;have A41:w4.cell? ⟨w.heap.size,1,none⟩=some (St t1):=by simp[World.cell?,A4]
 have B41:w4.cell? ⟨w.heap.size+1,1,none⟩=some (St t2):=by simp[World.cell?,B4]
 clear hb4 A3 B3 z0;go_wp21;refine zzM (M2.out _ (HW.out.below hB4)) λw5 hb5=>?_;have hB5:=hB4.trans (hb5.mono hB4.size);clear hb5 A4 B4 A41 B41;go_wp21;refine zzM (HN.out _ (HW.out.below hB5)) λw6 hb6=>?_;have hB6:=hB5.trans (hb6.mono hB5.size);clear hb6;go_wp21;go_ret2;exact⟨rfl,hB6⟩
theorem z1o (a b:Rat) (hb0:b≠0) (ha:okQ a) (hb:okQ b) (h1:digs (a.num*b.den)<=300) (h2:digs (b.num*a.den)<=300) (w:zA) (hw:Wd w):
 qJ 272 #[zb1 a,zb1 b] w (.tuple #[St (numS (a/b)),.int .i64 0]):=by
 have m1:=λW hW=>zhc a.num b.num a.den b.den ha.1 hb.1 ha.2 hb.2 h1 W hW;rw[zcf h2,zcg h2] at m1;have hnz:b.num≠0:=λh=>hb0 (Rat.num_eq_zero.1 h);have hdz:b.num*(a.den:Int)≠0:=Int.mul_ne_zero hnz (by have:=a.den_pos;omega);have hn:=λW hW=>zfa (a.num*b.den) (b.num*a.den) hdz h1 h2 W hW;rw[Int.mul_comm b.num,<-zjx a b hb0,Int.mul_comm (a.den:Int)] at hn;have hz:((⟨(zE b.num).toArray⟩:ByteArray).toList==[48])=false:=by
  rw[beq_eq_false_iff_ne,ByteArray.toList_eq];intro e;exact hnz (zdo ((show zE b.num=[48] from by simpa using e).trans zb9.symm))
 unfold zb1;generalize zE a.num=s1 at m1⊢;generalize zE b.num=s2 at m1 hz⊢;generalize zD a.den=t1 at m1⊢;generalize zD b.den=t2 at m1⊢;generalize zE (a.num*b.den)=u at m1 hn;generalize zE (b.num*a.den)=v at m1 hn;generalize numS (a/b)=r at hn⊢;obtain⟨S2,hS2⟩:=zzX (⟨s2.toArray⟩:ByteArray);rw[show St s2=.string S2 from by rw[hS2]] at m1⊢;rw[<-hS2] at hz;have M1:=hid m1;have HN:=hid hn;have HW:=hid hw;clear m1 hn hw h1 h2 ha hb hS2 hnz hdz hb0;have hB0:qL w ((w.alloc (.cells #[St s1,St t1] 98)).alloc (.cells #[.string S2,St t2] 98)):=((zM _ w).alloc (zN _) _).alloc (by simp) _;go_enter Tryz.func272,Tryz.ntmps272;go_wp21;refine zzM (M1.out _ (HW.out.below hB0)) λw4 hb4=>?_;have hB4:=hB0.trans (hb4.mono hB0.size);clear hb4;go_wp21;refine zzM (HN.out _ (HW.out.below hB4)) λw6 hb6=>?_;have hB6:=hB4.trans (hb6.mono hB4.size);clear hb6;go_wp21;go_ret2;exact⟨rfl,hB6⟩
theorem zy8 (a b:Rat) (ha:okQ a) (hb:okQ b) (h1:digs (a.num*b.den)<=300) (h2:digs (b.num*a.den)<=300) (h3:digs (a.num*b.den+b.num*a.den)<=300) (h4:(zD (a.den*b.den)).length<=300)
 (c:Nat) (w:zA) (hc:w.cell? ⟨c,0,none⟩=some (.func (.func 64) #[] #[])) (hw:Wd w):
 qJ 175 #[zb1 a,zb1 b,.pointer (some ⟨c,0,none⟩)] w (.tuple #[St (numS (a+b)),.int .i64 0]):=by
 have m1:=λW hW=>zhc a.num b.num a.den b.den ha.1 hb.1 ha.2 hb.2 h1 W hW;rw[zcf h2,zcg h2] at m1;have m3:=λW hW=>z1c (a.num*b.den) (b.num*a.den) h1 h2 W hW;rw[zcf h3,zcg h3] at m3;have m2:=λW hW=>zhk (a.den:Int) (b.den:Int) (by rw[zd9];exact ha.2) (by rw[zd9];exact hb.2) W hW;rw[<-Int.natCast_mul,Str.zad,Str.zad] at m2;have h4':digs ((a.den*b.den:Nat):Int)<=300:=by rw[zd9];exact h4
 rw[zcf h4',zcg h4'] at m2;have hn:=λW hW=>zfa (a.num*b.den+b.num*a.den) ((a.den*b.den:Nat):Int) (by have:=Nat.mul_pos a.den_pos b.den_pos;omega) h3 h4' W hW;rw[<-zf0] at hn;unfold zb1;generalize zE a.num=s1 at m1⊢;generalize zE b.num=s2 at m1⊢;generalize zD a.den=t1 at m1 m2⊢;generalize zD b.den=t2 at m1 m2⊢;generalize zE (a.num*b.den+b.num*a.den)=u at m3 hn;generalize zE (a.num*b.den)=u1 at m1 m3;generalize zE (b.num*a.den)=u2 at m1 m3;generalize zE ((a.den*b.den:Nat):Int)=v at m2 hn;generalize numS (a+b)=r at hn⊢;have M1:=hid m1;have M2:=hid m2;have M3:=hid m3;have HN:=hid hn;have HW:=hid hw;clear m1 m2 m3 hn hw h1 h2 h3 h4 h4' ha hb;have zc:=zbe hc;dsimp only at zc;obtain⟨W3,hW3⟩:=zzX ((w.alloc (.cells #[St s1,St t1] 98)).alloc (.cells #[St s2,St t2] 98));have hB0:qL w W3:=by rw[hW3];exact((zM _ w).alloc (zN _) _).alloc (by simp) _
 have z0:W3.heap.size=w.heap.size+1+1:=by rw[hW3];simp
 have A3:W3.heap[w.heap.size]? =some (.cells #[St s1,St t1] 98 (0,0)):=by
  rw[hW3];exact(Below.heap_alloc _ _ _ (by simp only[zH];omega)).trans (zG w _)
 have B3:W3.heap[w.heap.size+1]? =some (.cells #[St s2,St t2] 98 (0,0)):=by
  have:=zG (w.alloc (.cells #[St s1,St t1] 98)) (.cells #[St s2,St t2] 98 (0,0));rw[zH] at this;rw[hW3];exact this
 have HW3:=hid hW3;clear hW3;go_enter Tryz.func175,Tryz.ntmps175;go_wp21;rw[<-HW3.out];refine zzM (M1.out _ (HW.out.below hB0)) λw4 hb4=>?_;have hB4:=hB0.trans (hb4.mono hB0.size);have A4:w4.heap[w.heap.size]? =some (.cells #[St s1,St t1] 98 (0,0)):=(hb4.block _ (by omega)).trans A3;have B4:w4.heap[w.heap.size+1]? =some (.cells #[St s2,St t2] 98 (0,0)):=(hb4.block _ (by omega)).trans B3;have z4:W3.heap.size<=w4.heap.size:=hb4.size;have C4:w4.cell? ⟨c,0,none⟩=some (.func (.func 64) #[] #[]):=by rw[hB4.cell (p:=⟨c,0,none⟩) zc];exact hc
 have HC:=hid hc;clear hc;clear hb4 A3 B3;go_wp21;refine zzM (M3.out _ (HW.out.below hB4)) λw5 hb5=>?_;have hB5:=hB4.trans (hb5.mono hB4.size);have A5:w5.heap[w.heap.size]? =some (.cells #[St s1,St t1] 98 (0,0)):=(hb5.block _ (by omega)).trans A4;have B5:w5.heap[w.heap.size+1]? =some (.cells #[St s2,St t2] 98 (0,0)):=(hb5.block _ (by omega)).trans B4;have A51:w5.cell? ⟨w.heap.size,1,none⟩=some (St t1):=by simp[World.cell?,A5]
 have B51:w5.cell? ⟨w.heap.size+1,1,none⟩=some (St t2):=by simp[World.cell?,B5]
 clear hb5 A4 B4 C4 A5 B5;go_wp21;refine zzM (M2.out _ (HW.out.below hB5)) λw6 hb6=>?_;have hB6:=hB5.trans (hb6.mono hB5.size);clear hb6 A51 B51;go_wp21;refine zzM (HN.out _ (HW.out.below hB6)) λw7 hb7=>?_;have hB7:=hB6.trans (hb7.mono hB6.size);clear hb7;go_wp21;go_ret2;exact⟨rfl,hB7⟩
theorem zy9 (a b:Rat) (ha:okQ a) (hb:okQ b) (h1:digs (a.num*b.den)<=300) (h2:digs (b.num*a.den)<=300) (h3:digs (a.num*b.den-b.num*a.den)<=300) (h4:(zD (a.den*b.den)).length<=300)
 (c:Nat) (w:zA) (hc:w.cell? ⟨c,0,none⟩=some (.func (.func 127) #[] #[])) (hw:Wd w):
 qJ 175 #[zb1 a,zb1 b,.pointer (some ⟨c,0,none⟩)] w (.tuple #[St (numS (a-b)),.int .i64 0]):=by
 have m1:=λW hW=>zhc a.num b.num a.den b.den ha.1 hb.1 ha.2 hb.2 h1 W hW;rw[zcf h2,zcg h2] at m1;have m3:=λW hW=>z1e (a.num*b.den) (b.num*a.den) h1 h2 W hW;rw[zcf h3,zcg h3] at m3;have m2:=λW hW=>zhk (a.den:Int) (b.den:Int) (by rw[zd9];exact ha.2) (by rw[zd9];exact hb.2) W hW;rw[<-Int.natCast_mul,Str.zad,Str.zad] at m2;have h4':digs ((a.den*b.den:Nat):Int)<=300:=by rw[zd9];exact h4
 rw[zcf h4',zcg h4'] at m2;have hn:=λW hW=>zfa (a.num*b.den-b.num*a.den) ((a.den*b.den:Nat):Int) (by have:=Nat.mul_pos a.den_pos b.den_pos;omega) h3 h4' W hW;rw[<-znk] at hn;unfold zb1;generalize zE a.num=s1 at m1⊢;generalize zE b.num=s2 at m1⊢;generalize zD a.den=t1 at m1 m2⊢;generalize zD b.den=t2 at m1 m2⊢;generalize zE (a.num*b.den-b.num*a.den)=u at m3 hn;generalize zE (a.num*b.den)=u1 at m1 m3;generalize zE (b.num*a.den)=u2 at m1 m3;generalize zE ((a.den*b.den:Nat):Int)=v at m2 hn;generalize numS (a-b)=r at hn⊢;have M1:=hid m1;have M2:=hid m2;have M3:=hid m3;have HN:=hid hn;have HW:=hid hw;clear m1 m2 m3 hn hw h1 h2 h3 h4 h4' ha hb;have zc:=zbe hc;dsimp only at zc;obtain⟨W3,hW3⟩:=zzX ((w.alloc (.cells #[St s1,St t1] 98)).alloc (.cells #[St s2,St t2] 98));have hB0:qL w W3:=by rw[hW3];exact((zM _ w).alloc (zN _) _).alloc (by simp) _
 have z0:W3.heap.size=w.heap.size+1+1:=by rw[hW3];simp
 have A3:W3.heap[w.heap.size]? =some (.cells #[St s1,St t1] 98 (0,0)):=by
  rw[hW3];exact(Below.heap_alloc _ _ _ (by simp only[zH];omega)).trans (zG w _)
 have B3:W3.heap[w.heap.size+1]? =some (.cells #[St s2,St t2] 98 (0,0)):=by
  have:=zG (w.alloc (.cells #[St s1,St t1] 98)) (.cells #[St s2,St t2] 98 (0,0));rw[zH] at this;rw[hW3];exact this
 have HW3:=hid hW3;clear hW3;go_enter Tryz.func175,Tryz.ntmps175;go_wp21;rw[<-HW3.out];refine zzM (M1.out _ (HW.out.below hB0)) λw4 hb4=>?_;have hB4:=hB0.trans (hb4.mono hB0.size);have A4:w4.heap[w.heap.size]? =some (.cells #[St s1,St t1] 98 (0,0)):=(hb4.block _ (by omega)).trans A3;have B4:w4.heap[w.heap.size+1]? =some (.cells #[St s2,St t2] 98 (0,0)):=(hb4.block _ (by omega)).trans B3;have z4:W3.heap.size<=w4.heap.size:=hb4.size;have C4:w4.cell? ⟨c,0,none⟩=some (.func (.func 127) #[] #[]):=by rw[hB4.cell (p:=⟨c,0,none⟩) zc];exact hc
 have HC:=hid hc;clear hc;clear hb4 A3 B3;go_wp21;refine zzM (M3.out _ (HW.out.below hB4)) λw5 hb5=>?_;have hB5:=hB4.trans (hb5.mono hB4.size);have A5:w5.heap[w.heap.size]? =some (.cells #[St s1,St t1] 98 (0,0)):=(hb5.block _ (by omega)).trans A4;have B5:w5.heap[w.heap.size+1]? =some (.cells #[St s2,St t2] 98 (0,0)):=(hb5.block _ (by omega)).trans B4;have A51:w5.cell? ⟨w.heap.size,1,none⟩=some (St t1):=by simp[World.cell?,A5]
 have B51:w5.cell? ⟨w.heap.size+1,1,none⟩=some (St t2):=by simp[World.cell?,B5]
 clear hb5 A4 B4 C4 A5 B5;go_wp21;refine zzM (M2.out _ (HW.out.below hB5)) λw6 hb6=>?_;have hB6:=hB5.trans (hb6.mono hB5.size);clear hb6 A51 B51;go_wp21;refine zzM (HN.out _ (HW.out.below hB6)) λw7 hb7=>?_;have hB7:=hB6.trans (hb7.mono hB6.size);clear hb7;go_wp21;go_ret2;exact⟨rfl,hB7⟩
theorem zk4 (f:Nat) (w:zA):
 zC zF 108 #[.func (.func f) #[] #[]] w λe w'=>∃t,e=.returned (.func (.func 175) #[] #[.pointer (some ⟨w.heap.size,0,none⟩)])/\w.alloc (.cells #[.func (.func f) #[] #[]] t)=w':=by
 go_enter Tryz.func108,Tryz.ntmps108;go_wp21;go_ret;exact⟨_,rfl,rfl⟩
theorem zo5 (a b:Rat) (ha:okQ a) (hb:okQ b) (c:Nat) (r:List UInt8) (w:zA) (hw:Wd w)
 (H:∀W:zA,qL w W->Wd W->qJ 175 #[zb1 a,zb1 b,.pointer (some ⟨c,0,none⟩)] W (.tuple #[St r,.int .i64 0])):
 qJ 104 #[St (numS a),St (numS b),.func (.func 175) #[] #[.pointer (some ⟨c,0,none⟩)]] w (.tuple #[St r,.int .i64 0]):=by
 have r1:=λW hW=>zek a ha W hW;have r2:=λW hW=>zek b hb W hW;unfold zb1 at H;generalize numS a=x at r1⊢;generalize numS b=y at r2⊢;generalize zE a.num=s1 at H r1;generalize zE b.num=s2 at H r2;generalize zD a.den=t1 at H r1;generalize zD b.den=t2 at H r2;have R1:=hid r1;have R2:=hid r2;have HH:=hid H;have HW:=hid hw;clear r1 r2 H hw ha hb;go_enter Tryz.func104,Tryz.ntmps104;go_wp21;refine zzM (R1.out _ HW.out) λw1 hB1=>?_;have hB1':=hB1.alloc hB1.size (.cells #[.string ⟨s1.toArray⟩,.string ⟨t1.toArray⟩] 98);go_wp21;refine zzM (R2.out _ (HW.out.below hB1')) λw2 hb2=>?_;have hz1:=hB1.size;have z2:w1.heap.size<w2.heap.size:=by have:=hb2.size;simp at this;omega
 have hB2:=hB1'.trans (hb2.mono hB1'.size);have A2:w2.heap[w1.heap.size]? =some (.cells #[.string ⟨s1.toArray⟩,.string ⟨t1.toArray⟩] 98 (0,0)):=(hb2.block _ (by simp)).trans (zG w1 _);have A20:w2.cell? ⟨w1.heap.size,0,none⟩=some (.string ⟨s1.toArray⟩):=by simp[World.cell?,A2]
 have A21:w2.cell? ⟨w1.heap.size,1,none⟩=some (.string ⟨t1.toArray⟩):=by simp[World.cell?,A2]
 have hB3:=hB2.alloc hB2.size (.cells #[.string ⟨s2.toArray⟩,.string ⟨t2.toArray⟩] 98);clear hb2 A2 hB1 hB1';go_wp21;refine zzM (HH.out _ hB3 (HW.out.below hB3)) λw4 hb4=>?_;have hB4:=hB3.trans (hb4.mono hB3.size);clear hb4;go_wp21;go_ret2;exact⟨rfl,hB4⟩
theorem zgn (g:FuncId) (eg:∀args w,(callFunc g args).run zF w=.ok (.enter g args) w) (a b:Rat) (ha:okQ a) (hb:okQ b) (r:List UInt8) {E:Int} (w:zA) (hw:Wd w)
 (H:∀W:zA,qL w W->Wd W->zC zF g #[zb1 a,zb1 b] W λe w'=>e=.returned (.tuple #[St r,.int .i64 E])/\zB W.heap.size W w'):
 qJ 104 #[St (numS a),St (numS b),.func (.func g) #[] #[]] w (.tuple #[St r,.int .i64 E]):=by
 have EG:=hid eg;clear eg;have r1:=λW hW=>zek a ha W hW;have r2:=λW hW=>zek b hb W hW;unfold zb1 at H;generalize numS a=x at r1⊢;generalize numS b=y at r2⊢;generalize zE a.num=s1 at H r1;generalize zE b.num=s2 at H r2;generalize zD a.den=t1 at H r1;generalize zD b.den=t2 at H r2;have R1:=hid r1;have R2:=hid r2;have HH:=hid H;have HW:=hid hw;clear r1 r2 H hw ha hb;go_enter Tryz.func104,Tryz.ntmps104;go_wp21;refine zzM (R1.out _ HW.out) λw1 hB1=>?_;have hB1':=hB1.alloc hB1.size (.cells #[.string ⟨s1.toArray⟩,.string ⟨t1.toArray⟩] 98);go_wp21;refine zzM (R2.out _ (HW.out.below hB1')) λw2 hb2=>?_;have hz1:=hB1.size;have z2:w1.heap.size<w2.heap.size:=by have:=hb2.size;simp at this;omega
 have hB2:=hB1'.trans (hb2.mono hB1'.size);have A2:w2.heap[w1.heap.size]? =some (.cells #[.string ⟨s1.toArray⟩,.string ⟨t1.toArray⟩] 98 (0,0)):=(hb2.block _ (by simp)).trans (zG w1 _);have A20:w2.cell? ⟨w1.heap.size,0,none⟩=some (.string ⟨s1.toArray⟩):=by simp[World.cell?,A2]
 have A21:w2.cell? ⟨w1.heap.size,1,none⟩=some (.string ⟨t1.toArray⟩):=by simp[World.cell?,A2]
 have hB3:=hB2.alloc hB2.size (.cells #[.string ⟨s2.toArray⟩,.string ⟨t2.toArray⟩] 98);clear hb2 A2 hB1 hB1';have heg:=EG.out;go_wp21;clear heg;refine zzM (HH.out _ hB3 (HW.out.below hB3)) λw4 hb4=>?_;have hB4:=hB3.trans (hb4.mono hB3.size);clear hb4;go_wp21;go_ret2;exact⟨rfl,hB4⟩
theorem zch (g:FuncId) (eg:∀args w,(callFunc g args).run zF w=.ok (.enter g args) w) (a b:Rat) (ha:zbb a) (hb:zbb b) (n d:Int) (r:List UInt8) (w:zA) (hw:Wd w)
 (H:∀W:zA,zC zF g #[.agg #[.int .i64 a.num,I a.den],.agg #[.int .i64 b.num,I b.den]] W λe w'=>e=.returned (.agg #[.int .i64 n,.int .i64 d])/\zB W.heap.size W w')
 (N:qK 173 #[.agg #[.int .i64 n,.int .i64 d]] (St r)):
 qJ 102 #[St (numS a),St (numS b),.func (.func g) #[] #[]] w (.tuple #[St r,.bool true]):=by
 have EG:=hid eg;clear eg;have r1:=λW=>zbm a ha W;have r2:=λW=>zbm b hb W;generalize numS a=x at r1⊢;generalize numS b=y at r2⊢;generalize a.num=n1 at H r1;generalize b.num=n2 at H r2;generalize a.den=d1 at H r1;generalize b.den=d2 at H r2;have R1:=hid r1;have R2:=hid r2;have HH:=hid H;have HN:=hid N;have HW:=hid hw;clear r1 r2 H N hw ha hb;go_enter Tryz.func102,Tryz.ntmps102;go_wp21;refine zzM (R1.out _) λw1 hB1=>?_;have hB1':=hB1.alloc hB1.size (.cells #[.int .i64 n1,.int .i64 (d1:Int)] 93);go_wp21;refine zzM (R2.out _) λw2 hb2=>?_;have hz1:=hB1.size;have z2:w1.heap.size<w2.heap.size:=by have:=hb2.size;simp at this;omega
 have hB2:=hB1'.trans (hb2.mono hB1'.size);have A2:w2.heap[w1.heap.size]? =some (.cells #[.int .i64 n1,.int .i64 (d1:Int)] 93 (0,0)):=(hb2.block _ (by simp)).trans (zG w1 _);have A20:w2.cell? ⟨w1.heap.size,0,none⟩=some (.int .i64 n1):=by simp[World.cell?,A2]
 have A21:w2.cell? ⟨w1.heap.size,1,none⟩=some (.int .i64 (d1:Int)):=by simp[World.cell?,A2]
 have hB3:=hB2.alloc hB2.size (.cells #[.int .i64 n2,.int .i64 (d2:Int)] 93);clear hb2 A2 hB1 hB1';have heg:=EG.out;go_wp21;clear heg;refine zzM (HH.out _) λw4 hb4=>?_;have hB4:=hB3.trans (hb4.mono hB3.size);clear hb4;go_wp21;refine zzM (HN.out _ (HW.out.below hB4)) λw5 hb5=>?_;have hB5:=hB4.trans (hb5.mono hB4.size);clear hb5;go_wp21;go_ret2;exact⟨rfl,hB5⟩
theorem zd1 (g:FuncId) (a b:Rat) (h:¬(zbb a/\zbb b)) (ha:okQ a) (hb:okQ b) (w:zA):
 qJ 102 #[St (numS a),St (numS b),.func (.func g) #[] #[]] w (.tuple #[St [],.bool false]):=by
 by_cases h1:zbb a
 ·have h2:¬zbb b:=λh2=>h ⟨h1,h2⟩
  have r1:=λW=>zbm a h1 W;have r2:=λW=>zb5 b h2 (zO hb.1 (by omega)) (zO hb.2 (by omega)) W;generalize numS a=x at r1⊢;generalize numS b=y at r2⊢;generalize a.num=n1 at r1;generalize a.den=d1 at r1;have R1:=hid r1;have R2:=hid r2;clear r1 r2 h1 h2 h ha hb;go_enter Tryz.func102,Tryz.ntmps102;go_wp21;refine zzM (R1.out _) λw1 hB1=>?_;have hB1':=hB1.alloc hB1.size (.cells #[.int .i64 n1,.int .i64 (d1:Int)] 93);go_wp21;refine zzM (R2.out _) λw2 hb2=>?_;have hB2:=hB1'.trans (hb2.mono hB1'.size);clear hb2 hB1 hB1';go_wp21;go_ret2;exact⟨rfl,hB2.alloc hB2.size _⟩
 ·have r1:=λW=>zb5 a h1 (zO ha.1 (by omega)) (zO ha.2 (by omega)) W
  generalize numS a=x at r1⊢;generalize numS b=y at⊢;have R1:=hid r1;clear r1 h1 h ha hb;go_enter Tryz.func102,Tryz.ntmps102;go_wp21;refine zzM (R1.out _) λw1 hB1=>?_;go_wp21;go_ret2;exact⟨rfl,hB1.alloc hB1.size _⟩
theorem zhd {x:Int} {k:Nat} (hk:0<k) (h:x.natAbs<10^k):digs x<=k:=(zaf x.natAbs k hk).2 h
theorem zil {x k:Nat} (hk:0<k) (h:x<10^k):(zD x).length<=k:=(zaf x k hk).2 h
theorem zd0 {q:Rat} {k:Nat} (hk:0<k) (hk3:k<=300) (h:sz q k):okQ q:=
 ⟨zO (zhd hk h.1) hk3,zO (zil hk h.2) hk3⟩
theorem zcv {q:Rat} (h:zbb q):(-100000000<q.num/\q.num<100000000)/\(-100000000<(q.den:Int)/\(q.den:Int)<100000000):=by
 have h1:=(zaf q.num.natAbs 8 (by omega)).1 h.1;have h2:=(zaf q.den 8 (by omega)).1 h.2;omega
theorem zzc {x y:Int} {k:Nat} (hk:0<k) (hx:digs x<=k) (hy:digs y<=k):digs (x-y)<=k+1:=by
 rw[Int.sub_eq_add_neg];exact zhz hk hx (by unfold digs at*;rw[Int.natAbs_neg];exact hy)
theorem zcd {x:Int} {d i j:Nat} (hi:0<i) (h1:x.natAbs<10^i) (h2:d<10^j):digs (x*d)<=i+j:=
 zhd (by omega) (by rw[ze0];exact zcc h1 h2)
theorem zje (a b:Rat) (i j:Nat) (hi:0<i) (hj:0<j) (hij:i+j<300) (ha:sz a i) (hb:sz b j) (w:zA) (hw:Wd w):
 qJ 53 #[St (numS a),St (numS b)] w (.tuple #[St (numS (a+b)),.int .i64 0]):=by
 have oa:=zd0 hi (by omega) ha;have ob:=zd0 hj (by omega) hb;by_cases h:zbb a/\zbb b
 ·obtain⟨h1,h2⟩:=h
  have e1:=zcv h1;have e2:=zcv h2
  have hq:=λW hW=>zch 107 (enters_of Tryz.func107 (by kernel_rfl) rfl) a b h1 h2 (a.num*b.den+b.num*a.den) (a.den*b.den:Int) (numS (a+b)) W hW
   (λW=>nadd a.num a.den b.num b.den e1.1 e1.2 e2.1 e2.2 W)
   (λW hW=>by
     have p1:=zbs e1.1 e2.2;have p2:=zbs e2.1 e1.2;have p3:=zbs e1.2 e2.2;have:=zd8 (a.num*b.den+b.num*a.den) (a.den*b.den:Int) (Int.mul_ne_zero (by have:=a.den_pos;omega) (by have:=b.den_pos;omega)) (by omega) (by omega) W hW;rw[<-Int.natCast_mul,<-zf0] at this;rw[<-Int.natCast_mul];exact this)
  generalize numS a=x at hq⊢;generalize numS b=y at hq⊢;generalize numS (a+b)=r at hq⊢;have HQ:=hid hq;clear hq e1 e2 oa ob ha hb hi hj hij h1 h2;go_enter Tryz.func53,Tryz.ntmps53;go_wp21;refine zzM (HQ.out _ hw) λw1 hB1=>?_;go_wp21;go_ret2;exact⟨rfl,hB1⟩
 ·have hq:=λW=>zd1 107 a b h oa ob W
  have hbo:=λc W hW H=>zo5 a b oa ob c (numS (a+b)) W hW H;have k1:digs (a.num*b.den)<=300:=zO (zcd hi ha.1 hb.2) (by omega);have k2:digs (b.num*a.den)<=300:=zO (zcd hj hb.1 ha.2) (by omega);have k3:digs (a.num*b.den+b.num*a.den)<=300:=by
   have q1:=zcd hi ha.1 hb.2;have q2:=zcd hj hb.1 ha.2;rw[Nat.add_comm] at q2;have:=zhz (show 0<i+j by omega) q1 q2;omega
  have k4:(zD (a.den*b.den)).length<=300:=zO (zil (by omega) (zcc ha.2 hb.2)) (by omega);have hcb:=λc W hc hW=>zy8 a b oa ob k1 k2 k3 k4 c W hc hW;generalize numS a=x at hq hbo⊢;generalize numS b=y at hq hbo⊢;generalize numS (a+b)=r at hbo hcb⊢;generalize zb1 a=pa at hbo hcb;generalize zb1 b=pb at hbo hcb;have HQ:=hid hq;have HBO:=hid hbo;have HCB:=hid hcb;have HW:=hid hw;clear hq hbo hcb oa ob ha hb hi hj hij h k1 k2 k3 k4 hw;go_enter Tryz.func53,Tryz.ntmps53;go_wp21;refine zzM (HQ.out _) λw1 hB1=>?_;go_wp21;refine(zk4 _ _).mono ?_;rintro e w2 ⟨t,rfl,rfl⟩;go_wp21;have hB2:=hB1.alloc hB1.size (.cells #[.func (.func 64) #[] #[]] t);have hc2:(w1.alloc (.cells #[.func (.func 64) #[] #[]] t)).cell? ⟨w1.heap.size,0,none⟩=some (.func (.func 64) #[] #[]):=by
   have:=zG w1 (.cells #[.func (.func 64) #[] #[]] t (0,0));simp only[World.cell?,this];rfl
  refine zzM (HBO.out _ _ (HW.out.below hB2) (λW hb hW=>HCB.out _ W ((hb.cell (p:=⟨w1.heap.size,0,none⟩) (by simp)).trans hc2) hW)) λw3 hb3=>?_;have hB3:=hB2.trans (hb3.mono hB2.size);clear hc2 hb3;go_wp21;go_ret2;exact⟨rfl,hB3⟩
theorem ztz (a b:Rat) (i j:Nat) (hi:0<i) (hj:0<j) (hij:i+j<300) (ha:sz a i) (hb:sz b j) (w:zA) (hw:Wd w):
 qJ 101 #[St (numS a),St (numS b)] w (.tuple #[St (numS (a-b)),.int .i64 0]):=by
 have oa:=zd0 hi (by omega) ha;have ob:=zd0 hj (by omega) hb;by_cases h:zbb a/\zbb b
 ·obtain⟨h1,h2⟩:=h
  have e1:=zcv h1;have e2:=zcv h2
  have hq:=λW hW=>zch 172 (enters_of Tryz.func172 (by kernel_rfl) rfl) a b h1 h2 (a.num*b.den-b.num*a.den) (a.den*b.den:Int) (numS (a-b)) W hW
   (λW=>nsub a.num a.den b.num b.den e1.1 e1.2 e2.1 e2.2 W)
   (λW hW=>by
     have p1:=zbs e1.1 e2.2;have p2:=zbs e2.1 e1.2;have p3:=zbs e1.2 e2.2;have:=zd8 (a.num*b.den-b.num*a.den) (a.den*b.den:Int) (Int.mul_ne_zero (by have:=a.den_pos;omega) (by have:=b.den_pos;omega)) (by omega) (by omega) W hW;rw[<-Int.natCast_mul,<-znk] at this;rw[<-Int.natCast_mul];exact this)
  generalize numS a=x at hq⊢;generalize numS b=y at hq⊢;generalize numS (a-b)=r at hq⊢;have HQ:=hid hq;clear hq e1 e2 oa ob ha hb hi hj hij h1 h2;go_enter Tryz.func101,Tryz.ntmps101;go_wp21;refine zzM (HQ.out _ hw) λw1 hB1=>?_;go_wp21;go_ret2;exact⟨rfl,hB1⟩
 ·have hq:=λW=>zd1 172 a b h oa ob W
  have hbo:=λc W hW H=>zo5 a b oa ob c (numS (a-b)) W hW H;have k1:digs (a.num*b.den)<=300:=zO (zcd hi ha.1 hb.2) (by omega);have k2:digs (b.num*a.den)<=300:=zO (zcd hj hb.1 ha.2) (by omega);have k3:digs (a.num*b.den-b.num*a.den)<=300:=by
   have q1:=zcd hi ha.1 hb.2;have q2:=zcd hj hb.1 ha.2;rw[Nat.add_comm] at q2;have:=zzc (show 0<i+j by omega) q1 q2;omega
  have k4:(zD (a.den*b.den)).length<=300:=zO (zil (by omega) (zcc ha.2 hb.2)) (by omega);have hcb:=λc W hc hW=>zy9 a b oa ob k1 k2 k3 k4 c W hc hW;generalize numS a=x at hq hbo⊢;generalize numS b=y at hq hbo⊢;generalize numS (a-b)=r at hbo hcb⊢;generalize zb1 a=pa at hbo hcb;generalize zb1 b=pb at hbo hcb;have HQ:=hid hq;have HBO:=hid hbo;have HCB:=hid hcb;have HW:=hid hw;clear hq hbo hcb oa ob ha hb hi hj hij h k1 k2 k3 k4 hw;go_enter Tryz.func101,Tryz.ntmps101;go_wp21;refine zzM (HQ.out _) λw1 hB1=>?_;go_wp21;refine(zk4 _ _).mono ?_;rintro e w2 ⟨t,rfl,rfl⟩;go_wp21;have hB2:=hB1.alloc hB1.size (.cells #[.func (.func 127) #[] #[]] t);have hc2:(w1.alloc (.cells #[.func (.func 127) #[] #[]] t)).cell? ⟨w1.heap.size,0,none⟩=some (.func (.func 127) #[] #[]):=by
   have:=zG w1 (.cells #[.func (.func 127) #[] #[]] t (0,0));simp only[World.cell?,this];rfl
  refine zzM (HBO.out _ _ (HW.out.below hB2) (λW hb hW=>HCB.out _ W ((hb.cell (p:=⟨w1.heap.size,0,none⟩) (by simp)).trans hc2) hW)) λw3 hb3=>?_;have hB3:=hB2.trans (hb3.mono hB2.size);clear hc2 hb3;go_wp21;go_ret2;exact⟨rfl,hB3⟩
theorem zjf (a b:Rat) (i j:Nat) (hi:0<i) (hj:0<j) (hij:i+j<=300) (ha:sz a i) (hb:sz b j) (w:zA) (hw:Wd w):
 qJ 52 #[St (numS a),St (numS b)] w (.tuple #[St (numS (a*b)),.int .i64 0]):=by
 have oa:=zd0 hi (by omega) ha;have ob:=zd0 hj (by omega) hb;by_cases h:zbb a/\zbb b
 ·obtain⟨h1,h2⟩:=h
  have e1:=zcv h1;have e2:=zcv h2
  have hq:=λW hW=>zch 103 (enters_of Tryz.func103 (by kernel_rfl) rfl) a b h1 h2 (a.num*b.num) (a.den*b.den:Int) (numS (a*b)) W hW
   (λW=>nmul a.num a.den b.num b.den e1.1 e1.2 e2.1 e2.2 W)
   (λW hW=>by
     have p1:=zbs e1.1 e2.1;have p3:=zbs e1.2 e2.2;have:=zd8 (a.num*b.num) (a.den*b.den:Int) (Int.mul_ne_zero (by have:=a.den_pos;omega) (by have:=b.den_pos;omega)) (by omega) (by omega) W hW;rw[<-Int.natCast_mul,<-zf1] at this;rw[<-Int.natCast_mul];exact this)
  generalize numS a=x at hq⊢;generalize numS b=y at hq⊢;generalize numS (a*b)=r at hq⊢;have HQ:=hid hq;clear hq e1 e2 oa ob ha hb hi hj hij h1 h2;go_enter Tryz.func52,Tryz.ntmps52;go_wp21;refine zzM (HQ.out _ hw) λw1 hB1=>?_;go_wp21;go_ret2;exact⟨rfl,hB1⟩
 ·have hq:=λW=>zd1 103 a b h oa ob W
  have k1:digs (a.num*b.num)<=300:=zO (zhd (by omega) (by rw[Int.natAbs_mul];exact zcc ha.1 hb.1)) hij;have k4:(zD (a.den*b.den)).length<=300:=zO (zil (by omega) (zcc ha.2 hb.2)) hij;have hbo:=λW hW=>zgn 105 (enters_of Tryz.func105 (by kernel_rfl) rfl) a b oa ob (numS (a*b)) W hW (λW' _ hW'=>zt7 a b oa ob k1 k4 W' hW');generalize numS a=x at hq hbo⊢;generalize numS b=y at hq hbo⊢;generalize numS (a*b)=r at hbo⊢;have HQ:=hid hq;have HBO:=hid hbo;have HW:=hid hw;clear hq hbo oa ob ha hb hi hj hij h k1 k4 hw;go_enter Tryz.func52,Tryz.ntmps52;go_wp21;refine zzM (HQ.out _) λw1 hB1=>?_;go_wp21;refine zzM (HBO.out _ (HW.out.below hB1)) λw3 hb3=>?_;have hB3:=hB1.trans (hb3.mono hB1.size);clear hb3;go_wp21;go_ret2;exact⟨rfl,hB3⟩
theorem zoj (a b:Rat) (hb0:b≠0) (i j:Nat) (hi:0<i) (hj:0<j) (hij:i+j<=300) (ha:sz a i) (hb:sz b j) (w:zA) (hw:Wd w):
 qJ 233 #[St (numS a),St (numS b)] w (.tuple #[St (numS (a/b)),.int .i64 0]):=by
 have oa:=zd0 hi (by omega) ha;have ob:=zd0 hj (by omega) hb;obtain⟨y,hy⟩:=zzX (⟨(numS b).toArray⟩:ByteArray);have hyz:(y.toList==[48])=false:=by
  rw[beq_eq_false_iff_ne,zfo hy];intro e;exact hb0 ((zpy b).1 e)
 by_cases h:zbb a/\zbb b
 ·obtain⟨h1,h2⟩:=h
  have e1:=zcv h1;have e2:=zcv h2;have hnz:b.num≠0:=λh=>hb0 (Rat.num_eq_zero.1 h)
  have hq:=λW hW=>zch 271 (enters_of Tryz.func271 (by kernel_rfl) rfl) a b h1 h2 (a.num*b.den) (a.den*b.num:Int) (numS (a/b)) W hW
   (λW=>ndiv a.num a.den b.num b.den e1.1 e1.2 e2.1 e2.2 W)
   (λW hW=>by
     have p1:=zbs e1.1 e2.2;have p3:=zbs e1.2 e2.1;have:=zd8 (a.num*b.den) (a.den*b.num:Int) (Int.mul_ne_zero (by have:=a.den_pos;omega) hnz) (by omega) (by omega) W hW;rw[<-zjx a b hb0] at this;exact this)
  rw[zgf hy] at hq⊢;generalize numS a=x at hq⊢;generalize numS (a/b)=r at hq⊢;have HQ:=hid hq;clear hq e1 e2 oa ob ha hb hi hj hij h1 h2 hy hnz hb0;go_enter Tryz.func233,Tryz.ntmps233;go_wp21;refine zzM (HQ.out _ hw) λw1 hB1=>?_;go_wp21;go_ret2;exact⟨rfl,hB1⟩
 ·have hq:=λW=>zd1 271 a b h oa ob W
  have k1:digs (a.num*b.den)<=300:=zO (zcd hi ha.1 hb.2) hij;have k2:digs (b.num*a.den)<=300:=zO (zcd hj hb.1 ha.2) (by omega);have hbo:=λW hW=>zgn 272 (enters_of Tryz.func272 (by kernel_rfl) rfl) a b oa ob (numS (a/b)) W hW (λW' _ hW'=>z1o a b hb0 oa ob k1 k2 W' hW');rw[zgf hy] at hq hbo⊢;generalize numS a=x at hq hbo⊢;generalize numS (a/b)=r at hbo⊢;have HQ:=hid hq;have HBO:=hid hbo;have HW:=hid hw;clear hq hbo oa ob ha hb hi hj hij h k1 k2 hw hy hb0;go_enter Tryz.func233,Tryz.ntmps233;go_wp21;refine zzM (HQ.out _) λw1 hB1=>?_;go_wp21;refine zzM (HBO.out _ (HW.out.below hB1)) λw3 hb3=>?_;have hB3:=hB1.trans (hb3.mono hB1.size);clear hb3;go_wp21;go_ret2;exact⟨rfl,hB3⟩
end Go.Proofs.YtfoodcpnnmonhaaGreatDoor
namespace Go.Proofs.YtfoodcpnnmonhaaGreatDoor.Geo
structure Pt where
 x:Rat
 y:Rat
 deriving DecidableEq
def cmpR (a b:Rat):Int:=if a<b then-1 else if a=b then 0 else 1
theorem zaw (a b:Rat):(a<b/\cmpR a b= -1)\/(a=b/\cmpR a b=0)\/(b<a/\cmpR a b=1):=by
 unfold cmpR;by_cases h:a<b
 ·exact .inl ⟨h,by rw[if_pos h]⟩
 ·by_cases e:a=b
  ·exact .inr (.inl ⟨e,by rw[if_neg h,if_pos e]⟩)
  ·exact .inr (.inr ⟨by grind,by rw[if_neg h,if_neg e]⟩)
def ordP (p q:Pt):Int:=if cmpR p.x q.x≠0 then cmpR p.x q.x else cmpR p.y q.y
theorem zas (p q:Pt):((p.x<q.x\/p.x=q.x/\p.y<q.y)/\ordP p q= -1)\/(p=q/\ordP p q=0)\/((q.x<p.x\/p.x=q.x/\q.y<p.y)/\ordP p q=1):=by
 unfold ordP;obtain⟨a,b⟩:=p;obtain⟨c,d⟩:=q;simp only[Pt.mk.injEq];have:=zaw a c;have:=zaw b d;grind
def turn (a b c:Pt):Int:=cmpR ((b.x-a.x)*(c.y-a.y)) ((b.y-a.y)*(c.x-a.x))
def low (a b:Pt):Pt:=if ordP a b>0 then b else a
def high (a b:Pt):Pt:=if ordP a b>0 then a else b
end Go.Proofs.YtfoodcpnnmonhaaGreatDoor.Geo
namespace Go.Proofs.YtfoodcpnnmonhaaGreatDoor
open Go.RowKit Go.Shelf Lib Str Limb Geo
attribute [local go_sem] Oper.semAt_some
theorem z2v (x y s1 s2 t1 t2 u v:List UInt8) (z:Int) (NA:Hid (∀W:zA,qJ 55 #[St x] W (.tuple #[.agg #[.int .i64 0,.int .i64 0],.bool false])))
 (RA:Hid (qK 57 #[St x] (.tuple #[.agg #[St s1,St t1],.int .i64 0])))
 (RB:Hid (qK 57 #[St y] (.tuple #[.agg #[St s2,St t2],.int .i64 0])))
 (CR:Hid (qK 58 #[.agg #[St s1,St t1],.agg #[St s2,St t2]] (.tuple #[St u,St v,.int .i64 0])))
 (CM:Hid (∀W:zA,qJ 59 #[St u,St v] W (.tuple #[.int .i64 z,.int .i64 0])))
 (w:zA) (HW:Hid (Wd w)):
 qJ 30 #[St x,St y] w (.tuple #[.int .i64 z,.int .i64 0]):=by
 go_enter Tryz.func30,Tryz.ntmps30;go_wp21;refine zzM (NA.out _) λw1 hB1=>?_;have hX:=hB1.alloc hB1.size (.cells #[.int .i64 0,.int .i64 0] 93);clear hB1;go_wp21;refine zzM (RA.out _ (HW.out.below hX)) λw5 hb5=>?_;have hB5:=hX.trans (hb5.mono hX.size);have hB5':=hB5.alloc hB5.size (.cells #[.string ⟨s1.toArray⟩,.string ⟨t1.toArray⟩] 98);clear hb5;go_wp21;refine zzM (RB.out _ (HW.out.below hB5')) λw6 hb6=>?_;have hz5:=hB5.size;have z6:w5.heap.size<w6.heap.size:=by have:=hb6.size;simp at this;omega
 have hB6:=hB5'.trans (hb6.mono hB5'.size);have A2:w6.heap[w5.heap.size]? =some (.cells #[.string ⟨s1.toArray⟩,.string ⟨t1.toArray⟩] 98 (0,0)):=(hb6.block _ (by simp)).trans (zG w5 _);have A20:w6.cell? ⟨w5.heap.size,0,none⟩=some (.string ⟨s1.toArray⟩):=by simp[World.cell?,A2]
 have A21:w6.cell? ⟨w5.heap.size,1,none⟩=some (.string ⟨t1.toArray⟩):=by simp[World.cell?,A2]
 have hB7:=hB6.alloc hB6.size (.cells #[.string ⟨s2.toArray⟩,.string ⟨t2.toArray⟩] 98);clear hb6 A2;go_wp21;refine zzM (CR.out _ (HW.out.below hB7)) λw8 hb8=>?_;have hB8:=hB7.trans (hb8.mono hB7.size);clear hb8;go_wp21;refine zzM (CM.out _) λw9 hb9=>?_;have hB9:=hB8.trans (hb9.mono hB8.size);clear hb9;go_wp21;go_ret2;exact⟨rfl,hB9⟩
theorem z2w (x y s1 s2 t1 t2 u v:List UInt8) (z n1 d1:Int) (NA:Hid (∀W:zA,qJ 55 #[St x] W (.tuple #[.agg #[.int .i64 n1,.int .i64 d1],.bool true]))) (NB:Hid (∀W:zA,qJ 55 #[St y] W (.tuple #[.agg #[.int .i64 0,.int .i64 0],.bool false])))
 (RA:Hid (qK 57 #[St x] (.tuple #[.agg #[St s1,St t1],.int .i64 0])))
 (RB:Hid (qK 57 #[St y] (.tuple #[.agg #[St s2,St t2],.int .i64 0])))
 (CR:Hid (qK 58 #[.agg #[St s1,St t1],.agg #[St s2,St t2]] (.tuple #[St u,St v,.int .i64 0])))
 (CM:Hid (∀W:zA,qJ 59 #[St u,St v] W (.tuple #[.int .i64 z,.int .i64 0])))
 (w:zA) (HW:Hid (Wd w)):
 qJ 30 #[St x,St y] w (.tuple #[.int .i64 z,.int .i64 0]):=by
 go_enter Tryz.func30,Tryz.ntmps30;go_wp21;refine zzM (NA.out _) λw1 hB1=>?_;have hB1':=hB1.alloc hB1.size (.cells #[.int .i64 n1,.int .i64 d1] 93);clear hB1;go_wp21;refine zzM (NB.out _) λw2 hb2=>?_;have hB2:=hB1'.trans (hb2.mono hB1'.size);have hX:=hB2.alloc hB2.size (.cells #[.int .i64 0,.int .i64 0] 93);clear hb2 hB1' hB2;go_wp21;refine zzM (RA.out _ (HW.out.below hX)) λw5 hb5=>?_;have hB5:=hX.trans (hb5.mono hX.size);have hB5':=hB5.alloc hB5.size (.cells #[.string ⟨s1.toArray⟩,.string ⟨t1.toArray⟩] 98);clear hb5;go_wp21;refine zzM (RB.out _ (HW.out.below hB5')) λw6 hb6=>?_;have hz5:=hB5.size;have z6:w5.heap.size<w6.heap.size:=by have:=hb6.size;simp at this;omega
 have hB6:=hB5'.trans (hb6.mono hB5'.size);have A2:w6.heap[w5.heap.size]? =some (.cells #[.string ⟨s1.toArray⟩,.string ⟨t1.toArray⟩] 98 (0,0)):=(hb6.block _ (by simp)).trans (zG w5 _);have A20:w6.cell? ⟨w5.heap.size,0,none⟩=some (.string ⟨s1.toArray⟩):=by simp[World.cell?,A2]
 have A21:w6.cell? ⟨w5.heap.size,1,none⟩=some (.string ⟨t1.toArray⟩):=by simp[World.cell?,A2]
 have hB7:=hB6.alloc hB6.size (.cells #[.string ⟨s2.toArray⟩,.string ⟨t2.toArray⟩] 98);clear hb6 A2;go_wp21;refine zzM (CR.out _ (HW.out.below hB7)) λw8 hb8=>?_;have hB8:=hB7.trans (hb8.mono hB7.size);clear hb8;go_wp21;refine zzM (CM.out _) λw9 hb9=>?_;have hB9:=hB8.trans (hb9.mono hB8.size);clear hb9;go_wp21;go_ret2;exact⟨rfl,hB9⟩
theorem zim (a b:Rat):cmpZ (a.num*b.den) (b.num*a.den)=cmpR a b:=by
 have h1:=Rat.lt_iff a b;have h2:=Rat.lt_iff b a;unfold cmpZ;rcases zaw a b with⟨h,e⟩|⟨h,e⟩|⟨h,e⟩
 ·rw[e,if_pos (h1.1 h)]
 ·subst h;rw[e,if_neg (by omega),if_neg (by omega)]
 ·rw[e,if_neg (by have:=h2.1 h;omega),if_pos (h2.1 h)]
theorem z2x (x y:List UInt8) (n1 d1 n2 d2 p q z:Int) (NA:Hid (∀W:zA,qJ 55 #[St x] W (.tuple #[.agg #[.int .i64 n1,.int .i64 d1],.bool true])))
 (NB:Hid (∀W:zA,qJ 55 #[St y] W (.tuple #[.agg #[.int .i64 n2,.int .i64 d2],.bool true])))
 (v1:IntKind.i64.wrap (n1*d2)=p) (v2:IntKind.i64.wrap (n2*d1)=q)
 (CM:Hid (∀W:zA,zC zF 56 #[.int .i64 p,.int .i64 q] W λe w'=>e=.returned (.int .i64 z)/\w'=W)) (w:zA):
 qJ 30 #[St x,St y] w (.tuple #[.int .i64 z,.int .i64 0]):=by
 go_enter Tryz.func30,Tryz.ntmps30;go_wp21;refine zzM (NA.out _) λw1 hB1=>?_;have hB1':=hB1.alloc hB1.size (.cells #[.int .i64 n1,.int .i64 d1] 93);go_wp21;refine zzM (NB.out _) λw2 hb2=>?_;have hz1:=hB1.size;have z2:w1.heap.size<w2.heap.size:=by have:=hb2.size;simp at this;omega
 have hB2:=hB1'.trans (hb2.mono hB1'.size);have A2:w2.heap[w1.heap.size]? =some (.cells #[.int .i64 n1,.int .i64 d1] 93 (0,0)):=(hb2.block _ (by simp)).trans (zG w1 _);have A20:w2.cell? ⟨w1.heap.size,0,none⟩=some (.int .i64 n1):=by simp[World.cell?,A2]
 have A21:w2.cell? ⟨w1.heap.size,1,none⟩=some (.int .i64 d1):=by simp[World.cell?,A2]
 have hX:=hB2.alloc hB2.size (.cells #[.int .i64 n2,.int .i64 d2] 93);clear hb2 A2 hB1 hB1' hB2;go_wp21;refine(CM.out _).mono ?_;rintro e w3 ⟨rfl,rfl⟩;go_wp21;go_ret2;exact⟨rfl,hX⟩
theorem zgq (a b:Rat) (i j:Nat) (hi:0<i) (hj:0<j) (hij:i+j<=300) (ha:sz a i) (hb:sz b j) (w:zA) (hw:Wd w):
 qJ 30 #[St (numS a),St (numS b)] w (.tuple #[.int .i64 (cmpR a b),.int .i64 0]):=by
 have oa:=zd0 hi (by omega) ha;have ob:=zd0 hj (by omega) hb;have k1:digs (a.num*b.den)<=300:=zO (zcd hi ha.1 hb.2) hij;have k2:digs (b.num*a.den)<=300:=zO (zcd hj hb.1 ha.2) (by omega);have RA:=hid λW hW=>zek a oa W hW;have RB:=hid λW hW=>zek b ob W hW;have cr:=λW hW=>zhc a.num b.num a.den b.den oa.1 ob.1 oa.2 ob.2 k1 W hW;rw[zcf k2,zcg k2] at cr;have cm:=λW=>zsx (a.num*b.den) (b.num*a.den) k1 k2 W;rw[zim] at cm;by_cases h1:zbb a
 ·by_cases h2:zbb b
  ·have e1:=zcv h1
   have e2:=zcv h2;have p1:=zbs e1.1 e2.2;have p2:=zbs e2.1 e1.2
   exact z2x _ _ a.num a.den b.num b.den _ _ _ (hid λW=>zbm a h1 W) (hid λW=>zbm b h2 W) (zI _ (by omega)) (zI _ (by omega))
    (hid λW=>by rw[<-zim];exact Tryz.cmp_Compare_int _ _ W) w
  ·exact z2w _ _ _ _ _ _ _ _ _ a.num a.den (hid λW=>zbm a h1 W) (hid λW=>zb5 b h2 (zO ob.1 (by omega)) (zO ob.2 (by omega)) W) RA RB (hid cr) (hid cm) w (hid hw)
 ·exact z2v _ _ _ _ _ _ _ _ _ (hid λW=>zb5 a h1 (zO oa.1 (by omega)) (zO oa.2 (by omega)) W) RA RB (hid cr) (hid cm) w (hid hw)
theorem zk5 (q:Rat) (h:okQ q) (w:zA) (hw:Wd w):
 qJ 37 #[St (numS q)] w (.tuple #[St (zE q.num),St (zD q.den),.int .i64 0]):=by
 have hc:=zek q h w hw;generalize numS q=s at hc⊢;generalize zE q.num=u at hc⊢;generalize zD q.den=v at hc⊢;have HC:=hid hc;clear hc h;go_enter Tryz.func37,Tryz.ntmps37;go_wp21;refine zzM HC.out λw1 hB=>?_;go_wp21
 (refine wp_region_quiet_lit (by kernel_rfl) (by kernel_rfl) (WQ.out ?_);(repeat(first|(apply WQ.read (by rfl);(focus(rintro W ⟨n,rfl⟩;go_simp;try with_reducible rfl));try simp only[zzQ])|(apply WQ.skip (by rfl);try simp only[zzQ])));refine WQ.nil ?_;rintro _ ⟨nq,rfl⟩)
 go_wp21;go_ret3;exact⟨rfl,zao (hB.alloc hB.size _) nq⟩
end Go.Proofs.YtfoodcpnnmonhaaGreatDoor
namespace Go.Proofs.YtfoodcpnnmonhaaGreatDoor
open Go
variable {P:Program} {ops:Array Oper} {β:Type}
def zfp (P:Program) (C:Value->zA->Prop):Result Next->Prop
 | .ok (.value u) w'=>C u w'
 | .ok .skip w'=>C undef w'
 | .ok (.enter f args) w'=>zC P f args w' (λe w''=>∃v,e=.returned v/\C v w'')
 |_=>False
theorem zwz {o:Oper} {a:Act} {w:zA} {C:Value->zA->Prop} {K:Act->zA->Prop} {Q:Exit->Act->zA->Prop} (hK:∀v w',C v w'->K (a.put o.dst v) w') (h:zfp P C ((execOp a.eval o).run P w)):o.wp P a w K Q:=by
 unfold Oper.wp;generalize (execOp a.eval o).run P w=r at*
 cases r with
 |ok x w'=>
  cases x<;>simp only[zfp] at h<;>simp only[Oper.upon]
  ·exact hK _ _ h
  ·exact hK _ _ h
  ·exact h.mono λe w'' ⟨v,he,hc⟩=>by subst he;exact hK _ _ hc
 |halt x w'=>simp only[zfp] at h
def zgx (vs:β->Nat->Value) (C:β->Array Bool->zA->Prop) (i:Nat) (L:Array Bool) (b:β) (v:Value) (w':zA):Prop:=
 ∃b',(∀j,L.getD j false=true->vs b' j=vs b j)/\vs b' i=v/\C b' (L.setIfInBounds i true) w'
def zt8 (P:Program) (ops:Array Oper) (vs:β->Nat->Value) (C:β->Array Bool->zA->Prop) (i:Nat) (o:Oper) (a:Act) (b:β):Prop:=
 ∀L w,AcAt ops i L->C b L w->if Region.wanted o (yielded ops a.tmps) then zfp P (zgx vs C i L b) ((execOp a.eval o).run P w) else zgx vs C i L b undef w
theorem ziw (vs vs':Nat->Value) (a:Act) (L:Array Bool) (h:∀j,L.getD j false=true->vs j=vs' j):∀k,zax ops vs a L k=zax ops vs' a L k
 |0=>rfl
 |k+1=>by
  simp only[zax];rw[ziw vs vs' a L h k];split
  ·rename_i hk;rw[h k hk]
  ·rfl
theorem zw0 {Q:Exit->Act->zA->Prop} {C:β->Array Bool->zA->Prop} (hB:(acB ops&&zfd ops)=true) (vs:β->Nat->Value) (a:Act)
 (step:∀b i o,ops[i]? =some o->zt8 P ops vs C i o (zax ops (vs b) a (zbw ops.size i) ops.size) b)
 (hend:∀b L w,(∀i,i<ops.size->L.getD i false=true)->C b L w->Q .normal (zax ops (vs b) a (zbw ops.size ops.size) ops.size) w):
 ∀(fuel:Nat) (L:Array Bool) (w:zA) (b:β),L.size=ops.size->zoe ops L->((List.range ops.size).filter λi=>!L.getD i false).length<=fuel->C b L w->wpAny P .any ops Q fuel L (zax ops (vs b) a L ops.size) w:=by
 obtain⟨hsel,hdist,hlook,hback⟩:=zmq hB;have hq:∀b L w,(∀i,i<ops.size->L.getD i false=true)->C b L w->Q .normal (zax ops (vs b) a L ops.size) w:=by
  intro b L w hall hC;have e:zax ops (vs b) a L ops.size=zax ops (vs b) a (zbw ops.size ops.size) ops.size:=by
   have:∀k,k<=ops.size->zax ops (vs b) a L k=zax ops (vs b) a (zbw ops.size ops.size) k:=by
    intro k
    induction k with
    |zero=>intro _;rfl
    |succ k ih=>
     intro hk;simp only[zax];rw[ih (by omega),hall k (by omega),zd5];simp[show k<ops.size by omega]
   exact this _ (zN _)
  rw[e];exact hend b L w hall hC
 have hready:∀L,L.size=ops.size->Region.ready .any ops L=[]->∀i,i<ops.size->L.getD i false=true:=by
  intro L hsz h0 i
  induction i using Nat.strongRecOn with
  |_ i ih=>
   intro hi
   cases hl:L.getD i false with
   |true=>rfl
   |false=>
    have hm:i∈Region.ready .any ops L:=by
     refine mem_ready.2 ⟨getD_in (by omega) hl,ops[i],by simp[hi],λe he hb=>?_⟩;have hlt:=hback i (ops[i]) (show ops[i]? =some (ops[i]) from Array.getElem?_eq_getElem hi) e he hb;exact ih e.on hlt (Nat.lt_trans hlt hi)
    rw[h0] at hm;cases hm
 intro fuel
 induction fuel with
 |zero=>
  intro L w b hsz hcl hcount hC;have hall:∀i,i<ops.size->L.getD i false=true:=by
   intro i hi
   cases hl:L.getD i false with
   |true=>rfl
   |false=>
    have:i∈(List.range ops.size).filter λi=>!L.getD i false:=List.mem_filter.2 ⟨List.mem_range.2 hi,by rw[hl];rfl⟩;rw[List.length_eq_zero_iff.1 (Nat.le_zero.1 hcount)] at this;cases this
  refine⟨?_,hq b L w hall hC⟩;apply List.eq_nil_iff_forall_not_mem.2;intro i hi;obtain⟨h1,o,ho,_⟩:=mem_ready.1 hi;have:=hall i (Array.getElem?_eq_some_iff.1 ho).1;rw[getD_both h1] at this;cases this
 |succ fuel ih=>
  intro L w b hsz hcl hcount hC;refine⟨λh0=>hq b L w (hready L hsz h0) hC,λi hi=>?_⟩;obtain⟨h1,o,ho,hall⟩:=mem_ready.1 hi;have hin:i<ops.size:=(Array.getElem?_eq_some_iff.1 ho).1;have hLi:=getD_both h1;have hdone:∀j,Region.waitsFor .any ops i j=true->L.getD j false=true:=by
   intro j hw;obtain⟨o',ho',e,he,hb,rfl⟩:=Region.waitsFor_spec hw;have:o'=o:=Option.some.inj (ho'.symm.trans ho);subst this;exact hall e he hb
  have hopen:∀j,Region.waitsFor .any ops j i=true->L.getD j false=false:=by
   intro j hw
   cases hl:L.getD j false with
   |false=>rfl
   |true=>rw[hcl j i hl hw] at hLi;cases hLi
  have hat:AcAt ops i L:=⟨hsz,hLi,hdone,hcl⟩;have hst:=step b i o ho L w hat hC
  have hset:=λb'=>zic (vs b') a L i (by omega) hLi (λj d hne hd hj=>by
   rcases Nat.lt_or_ge j ops.size with hjn|hjn
   ·exact hdist i j d hin hjn (Ne.symm hne) hj hd
   ·simp[zcr,Array.getElem?_eq_none hjn] at hj) ops.size
  simp only[if_pos hin] at hset;have hsame:=zit (ops:=ops) (a:=zax ops (vs b) a L ops.size) (b:=zax ops (vs b) a (zbw ops.size i) ops.size) (o:=o) (λcs b=>Region.noSelect_spec hsel i o cs b ho) (λt ht=>by
   refine zib (vs b) a L _ t ops.size λj hj hd=>?_;rw[zd5];by_cases hji:j=i
   ·subst hji;rw[hLi];simp
   ·have:=hlook i j t hin hj (Ne.symm hji) hd (by simpa [zi8,ho] using ht)
    rcases this with⟨h2,h3⟩|⟨h2,h3⟩
    ·rw[hdone j h3];simp[hj,h2]
    ·rw[hopen j h3];simp;omega)
  have hnext:∀v w',zgx vs C i L b v w'->wpAny P .any ops Q fuel (L.setIfInBounds i true) ((zax ops (vs b) a L ops.size).put o.dst v) w':=by
   rintro v w' ⟨b',hagree,rfl,hC'⟩;have hd:o.dst=zcr ops i:=by simp[zcr,ho]
   rw[hd,ziw (vs b) (vs b') a L (λj hj=>(hagree j hj).symm) ops.size,<-hset b'];refine ih _ w' b' (by simpa using hsz) ?_ ?_ hC'
   ·intro x y hx hw
    rw[zdp L i _ (by omega)] at hx⊢;split
    ·rfl
    ·split at hx
     ·rename_i h;subst h;exact hdone y hw
     ·exact hcl x y hx hw
   ·have e:((List.range ops.size).filter λx=>!(L.setIfInBounds i true).getD x false)=((List.range ops.size).filter λx=>!L.getD x false).filter λx=>decide (x≠i):=by
     rw[List.filter_filter];refine List.filter_congr λx _=>?_;rw[zdp L i x (by omega)];by_cases h:i=x
     ·subst h;simp
     ·simp[h,Ne.symm h]
    rw[e];have:=(List.length_filter_lt_length_iff_exists (l:=(List.range ops.size).filter λx=>!L.getD x false) (p:=λx=>decide (x≠i))).2 ⟨i,List.mem_filter.2 ⟨List.mem_range.2 hin,by rw[hLi];rfl⟩,by simp⟩;omega
  unfold wpOp;simp only[ho];rw[hsame.2];by_cases hw:Region.wanted o (yielded ops (zax ops (vs b) a (zbw ops.size i) ops.size).tmps)=true
  ·rw[if_pos hw] at hst⊢
   rw[<-hsame.1] at hst;exact .inl (zwz hnext hst)
  ·rw[if_neg hw] at hst⊢
   exact hnext _ _ hst
def zhn (vs:β->Nat->Value) (C:β->(Nat->Bool)->zA->Prop) (i:Nat) (f:Nat->Bool) (b:β) (v:Value) (w':zA):Prop:=
 ∃b',(∀j,f j=true->vs b' j=vs b j)/\vs b' i=v/\C b' (λj=>if i=j then true else f j) w'
def zt1 (P:Program) (ops:Array Oper) (vs:β->Nat->Value) (C:β->(Nat->Bool)->zA->Prop) (i:Nat) (o:Oper) (a:Act) (b:β):Prop:=
 ∀f w,AcF ops i f->C b f w->
  if Region.wanted o (yielded ops a.tmps) then zfp P (zhn vs C i f b) ((execOp a.eval o).run P w) else zhn vs C i f b undef w
def AcLB (P:Program) (ops:Array Oper) (vs:β->Nat->Value) (C:β->(Nat->Bool)->zA->Prop) (K:Act->zA->Prop) (b:β):Nat->List Oper->Act->Prop
 |_,[],a=>∀f w,(∀i,i<ops.size->f i=true)->C b f w->K a w
 |k,o::rest,a=>zt1 P ops vs C k o a b/\AcLB P ops vs C K b (k+1) rest (a.put o.dst (vs b k))
section
variable {vs:β->Nat->Value} {C:β->(Nat->Bool)->zA->Prop} {K:Act->zA->Prop} {k:Nat} {o:Oper} {rest:List Oper} {a:Act} {b:β}
theorem ze1 (h:∀f w,(∀i,i<ops.size->f i=true)->C b f w->K a w):AcLB P ops vs C K b k [] a:=h
theorem zag (v:Value) (hv:vs b k=v) (hw:Region.wanted o (yielded ops a.tmps)=true)
 (hset:∀f w,C b f w->C b (λj=>if k=j then true else f j) w)
 (hy:∀f w,AcF ops k f->C b f w->(execOp a.eval o).run P w=.ok (.value v) w)
 (h:AcLB P ops vs C K b (k+1) rest (a.put o.dst v)):AcLB P ops vs C K b k (o::rest) a:=by
 subst hv;refine⟨λf w hf hC=>?_,h⟩;rw[if_pos hw,hy f w hf hC];exact⟨b,λ_ _=>rfl,rfl,hset f w hC⟩
theorem qB (v:Value) (hset:∀f w,C b f w->C b (λj=>if k=j then true else f j) w) (h:AcLB P ops vs C K b (k+1) rest (a.put o.dst v)) (hv:vs b k=v:=by rfl) (hw:Region.wanted o (yielded ops a.tmps)=true:=by rfl) (hy:∀f w,AcF ops k f->C b f w->(execOp a.eval o).run P w=.ok (.value v) w:=by intro f W' hf h;go_simp):AcLB P ops vs C K b k (o::rest) a:=zag v hv hw hset hy h
theorem zbv (v:Value) (hv:vs b k=v) (hw:Region.wanted o (yielded ops a.tmps)=true)
 (hy:∀f w,AcF ops k f->C b f w->∀C':Value->zA->Prop,(∀w',C b (λj=>if k=j then true else f j) w'->C' v w')->zfp P C' ((execOp a.eval o).run P w))
 (h:AcLB P ops vs C K b (k+1) rest (a.put o.dst v)):AcLB P ops vs C K b k (o::rest) a:=by
 subst hv;refine⟨λf w hf hC=>?_,h⟩;rw[if_pos hw];exact hy f w hf hC _ λw' h'=>⟨b,λ_ _=>rfl,rfl,h'⟩
theorem zdc (v:Value) (hv:vs b k=v) (hw:Region.wanted o (yielded ops a.tmps)=true)
 (hy:∀f w,AcF ops k f->C b f w->∀C':Value->zA->Prop,(∀b' w',(∀j,f j=true->vs b' j=vs b j)->C b' (λj=>if k=j then true else f j) w'->C' (vs b' k) w')->zfp P C' ((execOp a.eval o).run P w))
 (h:AcLB P ops vs C K b (k+1) rest (a.put o.dst v)):AcLB P ops vs C K b k (o::rest) a:=by
 subst hv;refine⟨λf w hf hC=>?_,h⟩;rw[if_pos hw];exact hy f w hf hC _ λb' w' hj h'=>⟨b',hj,rfl,h'⟩
end
theorem zk6 {vs:β->Nat->Value} {C:β->(Nat->Bool)->zA->Prop} {K:Act->zA->Prop} {b:β}:∀(l:List Oper) (k:Nat) (a:Act),AcLB P ops vs C K b k l a->
 (∀i o,l[i]? =some o->zt1 P ops vs C (k+i) o (zbq (vs b) k l a i) b)/\(∀f w,(∀i,i<ops.size->f i=true)->C b f w->K (zbq (vs b) k l a l.length) w)
 |[],k,a,h=>⟨λi o h=>by simp at h,h⟩
 |o::l,k,a,⟨hv,h⟩=>by
  obtain⟨h1,h2⟩:=zk6 l (k+1) _ h;refine⟨λi o' ho=>?_,?_⟩
  ·cases i with
   |zero=>
    obtain rfl:o=o':=by simpa using ho
    simpa [zbq] using hv
   |succ i=>
    have:=h1 i o' (by simpa using ho);simp only[zbq];rw[show k+(i+1)=k+1+i by omega];exact this
  ·simp only[zbq,List.length_cons]
   exact h2
theorem znn {K:Act->zA->Prop} {Q:Exit->Act->zA->Prop} (hQ:∀a w,K a w->Q .normal a w) {l:List Oper} (vs:β->Nat->Value) (C:β->(Nat->Bool)->zA->Prop) (hB:(acB l.toArray&&zfd l.toArray)=true) {a:Act} {w:zA} (b0:β) (hC:C b0 (λ_=>false) w) (h:∀b,AcLB P l.toArray vs C K b 0 l a):
 wpAny P .any l.toArray Q l.toArray.size (Array.replicate l.toArray.size false) a w:=by
 have e0:zax l.toArray (vs b0) a (Array.replicate l.toArray.size false) l.toArray.size=a:=by
  have:∀k,zax l.toArray (vs b0) a (Array.replicate l.toArray.size false) k=a:=by
   intro k
   induction k with
   |zero=>rfl
   |succ k ih=>
    have:(Array.replicate l.toArray.size false).getD k false=false:=by
     simp only[Array.getD];split<;>simp
    simp only[zax,this,Bool.false_eq_true,if_false];exact ih
  exact this _
 have:=zw0 (P:=P) (ops:=l.toArray) (Q:=Q) (C:=λb L w=>C b (λj=>L.getD j false) w) hB vs a ?_ ?_ l.toArray.size (Array.replicate l.toArray.size false) w b0 (by simp) ?_ ?_ ?_
 ·rw[e0] at this;exact this
 ·intro b i o ho L w hat hc
  have h1:=(zk6 l 0 a (h b)).1;have hi:i<l.length:=by
   have:=(Array.getElem?_eq_some_iff.1 ho).1;simpa using this
  have hst:=h1 i o (by simpa using ho) (λj=>L.getD j false) w (by rw[Nat.zero_add];exact⟨hat.self,hat.done,hat.closed⟩) hc;have ea:zax l.toArray (vs b) a (zbw l.toArray.size i) l.toArray.size=zbq (vs b) 0 l a i:=by
   have:=zdg (vs b) l a i (by omega) l.length (zN _);rw[Nat.min_eq_left (by omega)] at this;simpa using this
  have es:(λj=>(L.setIfInBounds i true).getD j false)=(λj=>if i=j then true else L.getD j false):=by
   funext j;exact zdp L i j (by rw[hat.size];simpa using hi)
  rw[Nat.zero_add] at hst;rw[ea];unfold zhn at hst;unfold zgx;simp only[es];exact hst
 ·intro b L w hall hc
  have h2:=(zk6 l 0 a (h b)).2;have ea:zax l.toArray (vs b) a (zbw l.toArray.size l.toArray.size) l.toArray.size=zbq (vs b) 0 l a l.length:=by
   have:=zdg (vs b) l a l.length (zN _) l.length (zN _);rw[Nat.min_self] at this;simpa using this
  rw[ea];exact hQ _ _ (h2 _ w hall hc)
 ·intro i j hi
  have:(Array.replicate l.toArray.size false).getD i false=false:=by simp only[Array.getD];split<;>simp
  rw[this] at hi;cases hi
 ·refine zO (List.length_filter_le _ _) (by simp)
 ·have:(λj=>(Array.replicate l.toArray.size false).getD j false)= λ_=>false:=by
   funext j;simp only[Array.getD];split<;>simp
  simpa only[this] using hC
theorem zc4 {id:Nat} {Q:Exit->Act->zA->Prop} {a:Act} {w:zA} {l:List Oper} (vs:β->Nat->Value) (C:β->(Nat->Bool)->zA->Prop) (hm:P.follows .mixedOrders=true) (hB:(acB l.toArray&&zfd l.toArray)=true) (b0:β) (hC:C b0 (λ_=>false) {w with drawn:=w.drawn+1})
 (h:∀b,AcLB P l.toArray vs C (Q .normal) b 0 l a):(Code.region id l.toArray true).wp P Q a w:=
 wp_region_any hm (znn (λ_ _ h=>h) vs C hB b0 hC h)
end Go.Proofs.YtfoodcpnnmonhaaGreatDoor
namespace Go.Proofs.YtfoodcpnnmonhaaGreatDoor
open Go.RowKit Go.Shelf Lib Str Limb Geo
attribute [local go_sem] Oper.semAt_some
section
variable {w W W':zA} {x1 y1 x2 y2 x3 y3 x4 y4 lx ly hx hy:List UInt8} {b:Nat×Nat} {f g:Nat->Bool}
end
section
variable {w W W':zA} {x1 y1 x2 y2 x3 y3 x4 y4 fx fy gx gy:List UInt8} {p q:Nat}
end
theorem zok {q:Rat} {k:Nat} (hk:0<k) (h:sz q k):digs q.num<=k/\(zD q.den).length<=k:=⟨(za3 _ _ hk).2 h.1,(zaf _ _ hk).2 h.2⟩
end Go.Proofs.YtfoodcpnnmonhaaGreatDoor
namespace Go.Proofs.YtfoodcpnnmonhaaGreatDoor
open Go.RowKit Go.Shelf Lib Str Limb
attribute [local go_sem] Oper.semAt_some
theorem zzg (x u v:List UInt8)
 (PA:Hid (qK 37 #[St x] (.tuple #[St u,St v,.int .i64 0]))) (w:zA) (HW:Hid (Wd w)):
 qJ 160 #[St x] w (.agg #[St u,St v]):=by
 obtain⟨W1,hW1⟩:=zzX (w.alloc (.cells #[St [],St []] 195));have hb1:qL w W1:=by rw[hW1];exact(zM _ w).alloc (zN _) _
 have A1:W1.heap[w.heap.size]? =some (.cells #[St [],St []] 195 (0,0)):=by rw[hW1];exact zG w _
 have hz:W1.heap.size=w.heap.size+1:=by rw[hW1];simp
 have HW1:=hid hW1;clear hW1;go_enter Tryz.func160,Tryz.ntmps160;go_wp21;have h9:=HW1.out;rw[<-h9];clear h9;refine zzM (PA.out _ (HW.out.below hb1)) λw2 hb2=>?_;have hB2:=hb1.trans (hb2.mono hb1.size);have A2:w2.heap[w.heap.size]? =some (.cells #[St [],St []] 195 (0,0)):=(hb2.block _ (by omega)).trans A1;have b0:w2.cell? ⟨w.heap.size,0,none⟩=some (St []):=by rw[zJ A2];rfl
 have b1:w2.cell? ⟨w.heap.size,1,none⟩=some (St []):=by rw[zJ A2];rfl
 have f0:w2.frozen? ⟨w.heap.size,0,none⟩=false:=Go.Joins.unfrozen_of_block A2 0;have f1:w2.frozen? ⟨w.heap.size,1,none⟩=false:=Go.Joins.unfrozen_of_block A2 1;clear A1 A2 hb2;go_wp21;refine bodyPost_ret (v:=.agg #[St u,St v]) (by simp[results,Tryz.results160,go_sem,b0,b1]) rfl ⟨rfl,?_⟩
 repeat(first|exact hB2|refine Below.setCell ?_ (by simp) _)
theorem zio (q:Rat) (h:okQ q) (w:zA) (hw:Wd w):
 qJ 160 #[St (numS q)] w (.agg #[St (zE q.num),St (zD q.den)]):=
 zzg _ _ _ (hid λW hW=>zk5 q h W hW) w (hid hw)
theorem zkh (x:Int) (w:zA):
 qJ 183 #[St (zE x)] w (.int .i64 (digs x:Nat)):=by
 obtain⟨t,ht⟩:=zzX (⟨(trimPrefix (⟨(zE x).toArray⟩:ByteArray).data.toList [45]).toArray⟩:ByteArray);have hs:t.size=digs x:=by
  rw[ht];show(trimPrefix (zE x) [45]).toArray.size=_;rw[zbi];simp[digs]
 rw[<-hs];have HT:=hid ht;clear ht hs;show zC _ _ #[.string ⟨(zE x).toArray⟩] _ _;generalize (⟨(zE x).toArray⟩:ByteArray)=u at*
 go_enter Tryz.func183,Tryz.ntmps183;go_wp21;refine zzM (Tryz.strings_TrimPrefix _ _ _) λw' hw1=>?_;have hw2:=hw1.symm;subst hw2;have h9:=HT.out;rw[<-show t=⟨(trimPrefix u.data.toList (⟨#[45]⟩:ByteArray).data.toList).toArray⟩ from h9];clear h9 hw1;go_wp21;go_ret;exact⟨rfl,zM _ _⟩
theorem zw3 (x u v:List UInt8) (a b:Nat) (w:zA) (HW:Hid (Wd w))
 (PA:Hid (qK 37 #[St x] (.tuple #[St u,St v,.int .i64 0])))
 (D1:Hid (∀W:zA,qJ 183 #[St u] W (.int .i64 a)))
 (D2:Hid (∀W:zA,qJ 183 #[St v] W (.int .i64 b))):
 qJ 120 #[St x] w (.int .i64 (max (a:Int) b)):=by
 go_enter Tryz.func120,Tryz.ntmps120;go_wp21;refine zzM (PA.out _ HW.out) λw1 hb1=>?_;go_wp21;refine zzM (D1.out _) λw2 hb2=>?_;go_wp21;refine zzM (D2.out _) λw3 hb3=>?_;go_wp21;go_ret;have h2:=hb1.trans (hb2.mono hb1.size);exact⟨rfl,h2.trans (hb3.mono h2.size)⟩
theorem znp (q:Rat) (h:okQ q) (w:zA) (hw:Wd w):
 qJ 120 #[St (numS q)] w (.int .i64 (max (digs q.num:Int) (digs (q.den:Int):Nat))):=
 zw3 _ (zE q.num) (zD q.den) _ _ w (hid hw) (hid λW hW=>zk5 q h W hW) (hid λW=>zkh q.num W) (hid λW=>by have:=zkh (q.den:Int) W;rwa [Str.zad] at this)
end Go.Proofs.YtfoodcpnnmonhaaGreatDoor
namespace Go.Proofs.YtfoodcpnnmonhaaGreatDoor
open Go.RowKit Go.Shelf
attribute [local go_sem] Oper.semAt_some
def MkAt (mk:Option Nat) (W:zA):Prop:=∀D,mk=some D->W.heap[D]? =some (.deferred (some []))
section
variable {F:Fence} {n:Nat} {P:Program} {g:Operand} {ps:Array Tmp} {assign body:Code} {Q:Exit->Act->zA->Prop} {a:Act} {w:zA} {gf:Nat} {lb:Array Value}
 {Rd:zA->Prop} {R:Nat->Array Value->Prop} {len:Nat}
theorem z87 (h1:1<=n) (hg:a.eval g=.func (.func gf) #[] lb) (hFg:F.fn gf) (eg:∀args w,(callFunc gf args).run P w=.ok (.enter gf args) w)
 (hseq:IterC F (n-1) P gf lb Rd R len) (hps:∀k args,R k args->args.size=ps.size)
 {B:Nat} (hB:B<=w.heap.size) (I:Nat->zA->Prop) (Ix:Code->Nat->zA->Prop) (hI:∀k W W',I k W->CellsKept W W'->zB B W W'->I k W') (hIx:∀c k W W',Ix c k W->CellsKept W W'->zB B W W'->Ix c k W')
 (hRd:∀k W,I k W->Rd W) (h0:I 0 w)
 (Ax:Nat->Array Value->Act->zA->Prop) (hAx:∀k args a' W W',Ax k args a' W->CellsKept W W'->zB B W W'->Ax k args a' W')
 (zl:Nat) (mark:List Deferred) (mk:Option Nat) (w1:FuncId->zA) (dd:Nat)
 (hent:∀fn,(Instr.enterLoop fn a.tmps ps assign body F.round).run P w=.ok (zl,mark) (w1 fn))
 (hrec:∀fn,(w1 fn).heap[zl]? =some (.loop {state:=.ready,pending:=none,fn,tmps:=a.tmps,params:=ps,assign,body,defers:=dd}))
 (hzl:w.heap.size<=zl) (hmk:∀D,mk=some D->w.heap.size<=D/\D≠zl) (hmk1:∀fn,MkAt mk (w1 fn)) (hstart:∀fn,qL w (w1 fn)) (hck:∀fn,CellsKept w (w1 fn))
 (hassign:∀(l k:Nat) (args:Array Value) (W:zA) (K:Act->zA->Prop),w.heap.size<=l->(∃r,W.heap[l]? =some (.loop r))->I k W->k<len->R k args->
   (∀a' W',KeepsFrom w.heap.size W W'->I k W'->Ax k args a' W'->K a' W')->
   assign.wpIn (F.inRound l) (n-1-1) P (Exit.then K (λ_ _ _=>False)) {tmps:=(ps.zip args).foldl (λt (p,v)=>t.setIfInBounds p v) a.tmps,defers:=[]} W)
 (hbody:∀(l k:Nat) (args:Array Value) (a':Act) (W:zA),w.heap.size<=l->(∃r,W.heap[l]? =some (.loop r))->I k W->k<len->R k args->Ax k args a' W->body.wpIn (F.inRound l) (n-1-1) P (zja w.heap.size I Ix k W) a' W)
 (hdone:∀(W:zA),I len W->MkAt mk W->Q .normal {a with defers:=mark++a.defers} W)
 (hstop:∀(c:Code) (k:Nat) (W:zA),Ix c k W->MkAt mk W->c.wpIn F n P Q {a with defers:=mark++a.defers} W):
 (Code.rangeFunc g ps assign body).wpIn F n P Q a w:=by
 refine wpIn_rangeFunc λfn hfn=>?_;let rec':LoopState->Option Code->Obj:=λst pe=>.loop {state:=st,pending:=pe,fn,tmps:=a.tmps,params:=ps,assign,body,defers:=dd};let bk:LoopState->Option Code->zA->Prop:=λst pe W=>W.heap[zl]? =some (rec' st pe)/\MkAt mk W;have hturn:∀st pe st' pe' W,bk st pe W->bk st' pe' (W.putObj zl (rec' st' pe')):=λst pe st' pe' W h=>
  ⟨World.putObj_heap_same (Array.getElem?_eq_some_iff.1 h.1).1,λD hD=>(World.putObj_heap_other (hmk D hD).2).trans (h.2 D hD)⟩
 refine⟨zl,mark,w1 fn,{target:=.fn (.func gf) lb,args:= #[.func (.yield zl) #[] #[]]},w1 fn,gf,#[.func (.yield zl) #[] #[]]++lb,w1 fn,hent fn,?_,?_,?_,λ_=>h1,?_⟩
 ·simp only[resolve,hg]
  simp[go_sem]
 ·intro f' hf';simp[Target.leads] at hf';subst hf';exact hFg
 ·simp[invoke,go_sem,eg]
 refine(hseq zl (λk W=>I k W/\bk .ready none W) (λW=>∃c k,Ix c k W/\bk .done (some c) W) _ (λk W1 h=>hRd k W1 h.1) (λk W1 W2 h hb=>?_) ?_ ?_).mono ?_
 ·exact⟨hI k W1 W2 h.1 (zac hb) (hb.mono (by have:=(Array.getElem?_eq_some_iff.1 h.2.1).1;omega)),
   (hb.block _ (Array.getElem?_eq_some_iff.1 h.2.1).1).trans h.2.1,λD hD=>(hb.block _ (Array.getElem?_eq_some_iff.1 (h.2.2 D hD)).1).trans (h.2.2 D hD)⟩
 ·rintro k args W ⟨hi,hbW⟩ hk hR
  have hy:=run_yield (P:=P) (args:=args) hbW.1 (hps k args hR);refine⟨fn,_,assign,body,hy,roundIn_of_wpIn hfn (hassign _ k args W _ hzl ⟨_,hbW.1⟩ hi hk hR ?_)⟩;intro a' W2 hk2 hi2 hax2;have hbW2:bk .ready none W2:=⟨hk2.same _ _ hzl hbW.1 rfl,λD hD=>hk2.same _ _ (hmk D hD).1 (hbW.2 D hD) rfl⟩;refine⟨_,run_beginRound hbW2.1 rfl,?_⟩;have hb2:bk .busy none (W2.putObj zl (rec' .busy none)):=hturn _ _ _ _ _ hbW2;have hc2:=zcw (rec' .busy none) hbW2.1 rfl;have hl2:=zcx (B:=B) (rec' .busy none) hbW2.1 (by omega);refine wpIn_mono (hbody _ k args a' _ hzl ⟨_,hb2.1⟩ (hI k _ _ hi2 hc2 hl2) hk hR (hAx k args a' _ _ hax2 hc2 hl2)) ?_;have fin:∀(jump:Option Code) (W3:zA),KeepsFrom w.heap.size (W2.putObj zl (rec' .busy none)) W3->
   (Instr.endRound zl jump).run P W3=.ok (.bool jump.isNone) (W3.putObj zl (rec' (if jump.isNone then .ready else .done) jump))/\
   CellsKept W3 (W3.putObj zl (rec' (if jump.isNone then .ready else .done) jump))/\zB B W3 (W3.putObj zl (rec' (if jump.isNone then .ready else .done) jump))/\
   bk (if jump.isNone then .ready else .done) jump (W3.putObj zl (rec' (if jump.isNone then .ready else .done) jump)):=λjump W3 hk3=>by
   have hb3:bk .busy none W3:=⟨hk3.same _ _ hzl hb2.1 rfl,λD hD=>hk3.same _ _ (hmk D hD).1 (hb2.2 D hD) rfl⟩;exact⟨run_endRound jump hb3.1,zcw _ hb3.1 rfl,zcx _ hb3.1 (by omega),hturn _ _ _ _ _ hb3⟩
  rintro e a3 W3 hp
  cases e with
  |normal=>
   obtain⟨hk3,hi3⟩:=hp;obtain⟨hr,hc,hbl,hb4⟩:=fin none W3 hk3;exact⟨_,_,hr,.inl ⟨rfl,hI _ _ _ hi3 hc hbl,hb4⟩⟩
  |ret=>
   obtain⟨hk3,hi3⟩:=hp;obtain⟨hr,hc,hbl,hb4⟩:=fin (some .ret) W3 hk3;exact⟨_,_,hr,.inr ⟨rfl,_,_,hIx _ _ _ _ hi3 hc hbl,hb4⟩⟩
  |exit id=>
   obtain⟨hk3,hi3⟩:=hp;obtain⟨hr,hc,hbl,hb4⟩:=fin (some (.exit id)) W3 hk3;exact⟨_,_,hr,.inr ⟨rfl,_,_,hIx _ _ _ _ hi3 hc hbl,hb4⟩⟩
  |goto t=>
   obtain⟨hk3,hi3⟩:=hp;obtain⟨hr,hc,hbl,hb4⟩:=fin (some (.goto t)) W3 hk3;exact⟨_,_,hr,.inr ⟨rfl,_,_,hIx _ _ _ _ hi3 hc hbl,hb4⟩⟩
  |panic ch=>exact hp.elim
  |outgrown=>exact hp.elim
 ·exact⟨hI 0 _ _ h0 (hck fn) ((hstart fn).mono hB),hrec fn,hmk1 fn⟩
 ·rintro e W2 ⟨⟨v,rfl⟩,(⟨hi,hb4⟩|⟨c,k,hi,hb4⟩)⟩
  ·exact⟨none,_,run_endLoop hb4.1 (by simp),hdone _ (hI _ _ _ hi (zcw _ hb4.1 rfl) (zcx _ hb4.1 (by omega))) (λD hD=>(World.putObj_heap_other (hmk D hD).2).trans (hb4.2 D hD))⟩
  ·exact⟨some c,_,run_endLoop hb4.1 (by simp),hstop c k _ (hIx _ _ _ _ hi (zcw _ hb4.1 rfl) (zcx _ hb4.1 (by omega))) (λD hD=>(World.putObj_heap_other (hmk D hD).2).trans (hb4.2 D hD))⟩
theorem z9z (hro:F.round=none) (h1:1<=n) (hg:a.eval g=.func (.func gf) #[] lb) (hFg:F.fn gf) (eg:∀args w,(callFunc gf args).run P w=.ok (.enter gf args) w)
 (hseq:IterC F (n-1) P gf lb Rd R len) (hps:∀k args,R k args->args.size=ps.size)
 {B:Nat} (hB:B<=w.heap.size) (I:Nat->zA->Prop) (Ix:Code->Nat->zA->Prop) (hI:∀k W W',I k W->CellsKept W W'->zB B W W'->I k W') (hIx:∀c k W W',Ix c k W->CellsKept W W'->zB B W W'->Ix c k W')
 (hRd:∀k W,I k W->Rd W) (h0:I 0 w)
 (Ax:Nat->Array Value->Act->zA->Prop) (hAx:∀k args a' W W',Ax k args a' W->CellsKept W W'->zB B W W'->Ax k args a' W')
 (hassign:∀(l k:Nat) (args:Array Value) (W:zA) (K:Act->zA->Prop),w.heap.size<=l->(∃r,W.heap[l]? =some (.loop r))->I k W->k<len->R k args->
   (∀a' W',KeepsFrom w.heap.size W W'->I k W'->Ax k args a' W'->K a' W')->
   assign.wpIn (F.inRound l) (n-1-1) P (Exit.then K (λ_ _ _=>False)) {tmps:=(ps.zip args).foldl (λt (p,v)=>t.setIfInBounds p v) a.tmps,defers:=[]} W)
 (hbody:∀(l k:Nat) (args:Array Value) (a':Act) (W:zA),w.heap.size<=l->(∃r,W.heap[l]? =some (.loop r))->I k W->k<len->R k args->Ax k args a' W->body.wpIn (F.inRound l) (n-1-1) P (zja w.heap.size I Ix k W) a' W)
 (hdone:∀(D:Nat) (W:zA),w.heap.size<=D->I len W->W.heap[D]? =some (.deferred (some []))->Q .normal {a with defers:={target:=.collected D,args:= #[]}::a.defers} W)
 (hstop:∀(D:Nat) (c:Code) (k:Nat) (W:zA),w.heap.size<=D->Ix c k W->W.heap[D]? =some (.deferred (some []))->c.wpIn F n P Q {a with defers:={target:=.collected D,args:= #[]}::a.defers} W):
 (Code.rangeFunc g ps assign body).wpIn F n P Q a w:=by
 have hst:∀o,qL w ((w.alloc (.deferred (some []))).alloc o):=λo=>((zM _ w).alloc (zN _) _).alloc (by simp) _;refine z87 h1 hg hFg eg hseq hps hB I Ix hI hIx hRd h0 Ax hAx (w.heap.size+1) [{target:=.collected w.heap.size,args:= #[]}] (some w.heap.size) (λfn=>(w.alloc (.deferred (some []))).alloc (.loop {state:=.ready,pending:=none,fn,tmps:=a.tmps,params:=ps,assign,body,defers:=w.heap.size})) w.heap.size
  (λfn=>by rw[hro];exact run_enterLoop_outer _ _ _ _ _) (λfn=>?_) (by omega) (λD hD=>by cases hD;omega) (λfn D hD=>?_) (λfn=>hst _) (λfn=>zac (hst _)) hassign hbody (λW hi hm=>hdone _ W (zN _) hi (hm _ rfl)) (λc k W hi hm=>hstop _ c k W (zN _) hi (hm _ rfl))
 ·have:=zG (w.alloc (.deferred (some []))) (.loop {state:=.ready,pending:=none,fn,tmps:=a.tmps,params:=ps,assign,body,defers:=w.heap.size});rwa [zH] at this
 ·cases hD;exact(Below.heap_alloc _ _ _ (by simp)).trans (zG w _)
end
end Go.Proofs.YtfoodcpnnmonhaaGreatDoor
namespace Go.Proofs.YtfoodcpnnmonhaaGreatDoor
open Go.RowKit Go.Shelf Lib Str Limb
attribute [local go_sem] Oper.semAt_some
def RowNums (p:Option Addr) (n:Nat) (q:Nat->Rat) (W:zA):Prop:=∀i,i<n->∃b off,p=some ⟨b,off,none⟩/\W.cell? ⟨b,off+i,none⟩=some (St (numS (q i)))
theorem RowNums.keep {p:Option Addr} {n:Nat} {q:Nat->Rat} {W W':zA} (h:RowNums p n q W) (hc:CellsKept W W'):RowNums p n q W':=λi hi=>let ⟨b,off,e,h1⟩:=h i hi;⟨b,off,e,hc.cell h1⟩
theorem zma (q:Rat) (h:0<=q.num) (w:zA):
 zC zF 229 #[St (numS q)] w λe w'=>e=.returned (.bool false)/\w'=w:=by
 have hp:Lib.hasPrefix (numS q) [45]=false:=by
  obtain⟨c,r,e,hc,_⟩:=dec_head q.num.natAbs;have e1:zE q.num=zD q.num.natAbs:=by
   rcases zbg q.num with⟨_,e⟩|⟨h',_⟩
   ·exact e
   ·omega
  have hc5:c≠45:=λh=>by subst h;simp at hc
  unfold numS;rw[e1,e];simp[Lib.hasPrefix,List.isPrefixOf,Ne.symm hc5]
 have hc:=Tryz.strings_HasPrefix ⟨(numS q).toArray⟩ ⟨#[45]⟩ w;rw[show(⟨(numS q).toArray⟩:ByteArray).data.toList=numS q from rfl,show(⟨#[45]⟩:ByteArray).data.toList=[45] from rfl,hp] at hc;show zC _ _ #[.string ⟨(numS q).toArray⟩] _ _;generalize (⟨(numS q).toArray⟩:ByteArray)=u at*
 have HC:=hid hc;clear hc hp;go_enter Tryz.func229,Tryz.ntmps229;go_wp21;refine HC.out.mono ?_;rintro e w' ⟨rfl,rfl⟩;go_wp21;go_ret;exact⟨rfl,rfl⟩
theorem zk7 (n:Nat) (hl:(zD n).length<=17) (w:zA) (_:Wd w):
 qJ 161 #[St (zD n)] w (.tuple #[I n,.bool true]):=by
 have hc:=znc (n:Int) (by rw[Str.zad];omega) w;rw[Str.zad] at hc;have hsz:¬(17:Int)<(⟨(zD n).toArray⟩:ByteArray).size:=by
  have:(⟨(zD n).toArray⟩:ByteArray).size=(zD n).length:=by show(zD n).toArray.size=_;simp
  omega
 show zC _ _ #[.string ⟨(zD n).toArray⟩] _ _;generalize (⟨(zD n).toArray⟩:ByteArray)=u at*
 have HC:=hid hc;clear hc hl;go_enter Tryz.func161,Tryz.ntmps161;go_wp21;refine zzM HC.out λw1 hb=>?_;go_wp21
 (refine wp_region_quiet_lit (by kernel_rfl) (by kernel_rfl) (WQ.out ?_);(repeat(first|(apply WQ.read (by rfl);(focus(rintro W ⟨n,rfl⟩;go_simp;try with_reducible rfl));try simp only[zzQ])|(apply WQ.skip (by rfl);try simp only[zzQ])));refine WQ.nil ?_;rintro _ ⟨nq,rfl⟩)
 go_wp21;go_ret2;exact⟨rfl,zao hb nq⟩
structure PairS (w:zA) (u v:List UInt8) (pb:Nat) (W:zA):Prop where
 bel:qL w W
 lt:pb<W.heap.size
 hp:W.heap[pb]? =some (.cells #[St u,St v] 195 (0,0))
theorem PairS.next {w:zA} {u v:List UInt8} {pb:Nat} {W W':zA} (h:PairS w u v pb W) (hb:qL W W'):PairS w u v pb W':=
 ⟨h.bel.trans (hb.mono h.bel.size),Nat.lt_of_lt_of_le h.lt hb.size,(hb.block _ h.lt).trans h.hp⟩
theorem PairS.c0 {w:zA} {u v:List UInt8} {pb:Nat} {W:zA} (h:PairS w u v pb W):W.cell? ⟨pb,0,none⟩=some (St u):=by rw[zJ h.hp];rfl
theorem PairS.c1 {w:zA} {u v:List UInt8} {pb:Nat} {W:zA} (h:PairS w u v pb W):W.cell? ⟨pb,1,none⟩=some (St v):=by rw[zJ h.hp];rfl
theorem zji (p1 p2:Option Addr) (cap1 cap2 n1 n2:Nat) (q1 q2:Nat->Rat) (h1:n1<=100) (h2:n2<=100)
 (C:Hid (∀k,k<n1->qK 36 #[St (numS (q1 k))] (.int .i64 0)))
 (O:Hid (∀k,k<n1->qK 160 #[St (numS (q1 k))] (.agg #[St (zE (q1 k).num),St (zD (q1 k).den)])))
 (Z:Hid (∀k,k<n1->digs (q1 k).num<=90/\(zD (q1 k).den).length<=90))
 (N:Hid (∀k,k<n2->∀W:zA,zC zF 229 #[St (numS (q2 k))] W λe w'=>e=.returned (.bool false)/\w'=W))
 (w:zA) (HW:Hid (Wd w)) (HP1:Hid (RowNums p1 n1 q1 w)) (HP2:Hid (RowNums p2 n2 q2 w)):
 qJ 159 #[.slice p1 n1 cap1,.slice p2 n2 cap2] w (.int .i64 0):=by
 go_enter Tryz.func159,Tryz.ntmps159;go_wp21;go_loopw [13] (λi wr=>∃(k:Nat),k<=n1/\i=.int .i64 (k:Int)/\Hid (qL w wr))
  (λi _=>n1-(zL i).toNat)
 case atStart=>exact⟨0,Nat.zero_le _,rfl,zM _ _⟩
 case round=>
  obtain⟨k,hk,rfl,hB⟩:=hrel;by_cases hlt:k<n1
  ·obtain⟨b,off,rfl,c0⟩:=(HP1.out.keep (zac (hB.out.mono (zN _)))) k hlt
   have HC:=hid (C.out k hlt);have HO:=hid (O.out k hlt);obtain⟨z1,z2⟩:=Z.out k hlt;obtain⟨t,ht⟩:=zzX (⟨(trimPrefix (⟨(zE (q1 k).num).toArray⟩:ByteArray).data.toList (⟨#[45]⟩:ByteArray).data.toList).toArray⟩:ByteArray);have hts:t.size<=90:=by
    rw[ht];show(trimPrefix (zE (q1 k).num) [45]).toArray.size<=90;rw[zbi];simpa [digs] using z1
   have hvs:(⟨(zD (q1 k).den).toArray⟩:ByteArray).size<=90:=by show(zD (q1 k).den).toArray.size<=90;simpa using z2
   have hmx:max (t.size:Int) ((zD (q1 k).den).length:Int)<=90:=by omega
   have HT0:=hid ht;clear ht z1 z2;generalize numS (q1 k)=x at*
   generalize zE (q1 k).num=u at*
   generalize zD (q1 k).den=v at*
   have HT:Hid (Value.string ⟨(trimPrefix (⟨u.toArray⟩:ByteArray).data.toList (⟨#[45]⟩:ByteArray).data.toList).toArray⟩=.string t):=hid (by rw[HT0.out]);clear HT0;go_wp21;refine zzM (HC.out wr (HW.out.below hB.out)) λw2 hb2=>?_;have hB2:=hid (hB.out.trans (hb2.mono hB.out.size));clear hb2;go_wp21;refine zzM (HO.out w2 (HW.out.below hB2.out)) λw3 hb3=>?_;have hB3:=hid (hB2.out.trans (hb3.mono hB2.out.size));clear hb3 hB2 hB;go_wp21;obtain⟨w4,hw4⟩:=zzX (w3.alloc (.cells #[St u,St v] 195));rw[<-hw4];obtain⟨pb,hpb⟩:=zzX w3.heap.size;have HP5:Hid (PairS w u v pb w4):=by
    have ha:qL w3 w4:=by rw[hw4];exact(zM _ w3).alloc (zN _) _
    exact hid ⟨hB3.out.trans (ha.mono hB3.out.size),by rw[hw4,hpb];simp,by rw[hw4,hpb];exact zG w3 _⟩
   rw[<-hpb];clear hw4 hB3 hpb;refine zbl (λ_ W=>PairS w u v pb W) (by kernel_rfl) (by kernel_rfl) (by have h:=HP5.out;exact h.next (zM _ _).drew) ?_;refine qR (.pointer (some ⟨pb,0,none⟩)) ?_;refine qR (St u) ?_ (hy:=λf W' hf h=>by have h0:=h.c0;go_simp);simp only[zzQ]
   refine zar (.string t) (by rfl) (λf W' hf h C' hC'=>by
    go_simp;refine zzM (Tryz.strings_TrimPrefix _ _ _) λw' hw1=>?_;have hw2:=hw1.symm;subst hw2;refine⟨?_,hC' _ h⟩;rw[HT.out]) ?_
   refine qR (.int .i64 t.size) ?_;refine qR (.pointer (some ⟨pb,1,none⟩)) ?_;simp only[zzQ];refine qR (St v) ?_ (hy:=λf W' hf h=>by have h0:=h.c1;go_simp);refine qR (.int .i64 (⟨v.toArray⟩:ByteArray).size) ?_;refine qR (.int .i64 (max (t.size:Int) ((⟨v.toArray⟩:ByteArray).size:Int))) ?_;simp only[zzQ];refine qR (.bool false) ?_;simp only[zzQ];refine zck λf W4 hf h=>?_;have hB4:=hid h.bel;clear h hf f HP5;go_wp21;go_roundw
   case rel=>exact⟨k+1,by omega,by go_num,hB4⟩
   case measure=>simp[zL];omega
  ·clear hk
   go_wp21;clear HP1 C O Z;go_loopw [36] (λi wr=>∃(k:Nat),k<=n2/\i=.int .i64 (k:Int)/\Hid (qL w wr))
    (λi _=>n2-(zL i).toNat)
   case atStart=>exact⟨0,Nat.zero_le _,rfl,hB⟩
   case round=>
    clear hB;obtain⟨j,hj,rfl,hB⟩:=hrel;by_cases hlt2:j<n2
    ·obtain⟨b,off,rfl,c0⟩:=(HP2.out.keep (zac (hB.out.mono (zN _)))) j hlt2
     have HN:=hid (N.out j hlt2);generalize numS (q2 j)=x at*
     go_wp21;refine zzM (HN.out _) λw2 hw1=>?_;have hw2:=hw1.symm;subst hw2;clear hw1;go_wp21;go_roundw
     case rel=>exact⟨j+1,by omega,by go_num,hB⟩
     case measure=>simp[zL];omega
    ·go_wp21
     go_ret;exact⟨rfl,hB.out⟩
end Go.Proofs.YtfoodcpnnmonhaaGreatDoor
