/- rational.read, Check, Parts, at a numeral. -/
import Derived.Test.YtnjiiafnneillaaGreatDoorX05
set_option maxRecDepth 100000
set_option maxHeartbeats 8000000
open Go renaming World → zA, Calls → zC
open Go.Lib renaming decDigits → zD, itoa → zE
open Go.Proofs.Tryz renaming prog → zF
open Go.World renaming alloc_heap_new → zG, size_alloc → zH
open Go.IntWalk renaming i64_in → zI
open Go.RowKit.Below renaming refl → zM
open Nat renaming le_refl → zN, le_trans → zO
open List renaming size_toArray → zZ
namespace Go.Proofs.YtnjiiafnneillaaGreatDoor
open Go.RowKit Go.Shelf Lib Str Limb
attribute [local go_sem] Oper.semAt_some
def okQ (q:Rat):Prop:=digs q.num<=300/\(zD q.den).length<=300
theorem zu2 (q:Rat) (h:zbb q) (w:zA) (hw:Wd w):
 qJ 68 #[St (numS q)] w (.tuple #[.agg #[St (zE q.num),St (zD q.den)],.int .i64 0]):=by
 have hc:=λW hW=>zoh q (zO h.1 (by omega)) (zO h.2 (by omega)) W hW;have hn:=λW=>zbm q h W;generalize numS q=s at hc hn⊢;generalize zE q.num=sn at hc⊢;generalize zD q.den=sd at hc⊢;generalize q.num=n at hn;generalize q.den=d at hn;have HC:=hid hc;have HN:=hid hn;have HW:=hid hw;clear hc hn hw h;go_enter Tryz.func68,Tryz.ntmps68;go_wp21;refine zzM (HC.out _ (HW.out.below ((zM _ w).alloc (zN _) _))) λw1 hb1=>?_;have hB1:qL w w1:=((zM _ w).alloc (zN _) _).trans (hb1.mono (by simp));have z1:w.heap.size<w1.heap.size:=by have:=hb1.size;simp at this;omega
 have R1:w1.heap[w.heap.size]? =some (.cells #[St [],St []] 76 (0,0)):=(hb1.block _ (by simp)).trans (zG w _);clear hb1;go_wp21;refine zzM (HN.out _) λw2 hb2=>?_;have z2:w1.heap.size<w2.heap.size:=by have:=hb2.size;simp at this;omega
 have hB2:qL w w2:=(hB1.alloc hB1.size _).trans (hb2.mono (by simp;omega));have R2:w2.heap[w.heap.size]? =some (.cells #[St [],St []] 76 (0,0)):=(hb2.block _ (by simp;omega)).trans ((Below.heap_alloc _ _ _ (by omega)).trans R1);have P2:w2.heap[w1.heap.size]? =some (.cells #[St sn,St sd] 76 (0,0)):=(hb2.block _ (by simp)).trans (zG w1 _);have P20:w2.cell? ⟨w1.heap.size,0,none⟩=some (St sn):=by simp[World.cell?,P2]
 have P21:w2.cell? ⟨w1.heap.size,1,none⟩=some (St sd):=by simp[World.cell?,P2]
 have R20:w2.cell? ⟨w.heap.size,0,none⟩=some (St []):=by simp[World.cell?,R2]
 have R21:w2.cell? ⟨w.heap.size,1,none⟩=some (St []):=by simp[World.cell?,R2]
 have F20:w2.frozen? ⟨w.heap.size,0,none⟩=false:=by simp[World.frozen?,R2]
 have F21:w2.frozen? ⟨w.heap.size,1,none⟩=false:=by simp[World.frozen?,R2]
 have z3:w.heap.size<w2.heap.size:=by omega
 clear R1 hB1 hb2 P2;go_wp21;refine bodyPost_ret (v:=.tuple #[.agg #[St sn,St sd],.int .i64 0]) (by simp[results,Tryz.results68,go_sem,R20,R21,z3]) rfl ⟨rfl,?_⟩
 repeat(first|exact hB2|exact zM _ _|refine Below.alloc ?_ (by simp[World.setCell]<;>omega) _|refine zao ?_ _|refine Below.setCell ?_ (by simp) _)
theorem zp1 (q:Rat) (h:¬zbb q) (hk:okQ q) (hd:q.den=1) (hl:digs q.num<=800000) (hl2:(zD q.den).length<=800000) (w:zA) (hw:Wd w):
 qJ 68 #[St (numS q)] w (.tuple #[.agg #[St (zE q.num),St (zD q.den)],.int .i64 0]):=by
 have hc:=λW hW=>zoh q hl hl2 W hW;have hn:=λW=>zb5 q h hl hl2 W;obtain⟨sn,hsn⟩:=zzX (⟨(zE q.num).toArray⟩:ByteArray);obtain⟨sd,hsd⟩:=zzX (⟨(zD q.den).toArray⟩:ByteArray);obtain⟨own,hown⟩:=zzX (⟨(zD q.num.natAbs).toArray⟩:ByteArray);have htp:∀W:zA,zC zF 139 #[.string sn,.string ⟨#[45]⟩] W λe w'=>e=.returned (.string own)/\w'=W:=by
  intro W;have:=Tryz.strings_TrimPrefix sn ⟨#[45]⟩ W;rw[show sn.data.toList=zE q.num from by rw[hsn],show(⟨#[45]⟩:ByteArray).data.toList=[45] from rfl,zbi] at this;rw[hown];exact this
 have l1:own.size=digs q.num:=by rw[hown];exact zZ
 have l2:sd.size=(zD q.den).length:=by rw[hsd];exact zZ
 have s1:¬(300:Int)<own.size:=by have:=hk.1;omega
 have s2:¬(300:Int)<sd.size:=by have:=hk.2;omega
 have s3:(sd.toList==[49])=true:=by rw[zfo hsd,hd,zae (by omega)];rfl
 have hc:∀W,Wd W->qJ 138 #[St (numS q)] W (.tuple #[.agg #[.string sn,.string sd],.bool true]):=by rw[hsn,hsd];exact hc
 rw[show St (zE q.num)=.string sn from by rw[hsn],show St (zD q.den)=.string sd from by rw[hsd]];generalize numS q=s at hc hn⊢;have HC:=hid hc;have HN:=hid hn;have HW:=hid hw;have TP:=hid htp;clear hc hn hw h hsn hsd hown htp l1 l2 hl hl2 hk hd;go_enter Tryz.func68,Tryz.ntmps68;go_wp21;refine zzM (HC.out _ (HW.out.below ((zM _ w).alloc (zN _) _))) λw1 hb1=>?_;have hB1:qL w w1:=((zM _ w).alloc (zN _) _).trans (hb1.mono (by simp));have z1:w.heap.size<w1.heap.size:=by have:=hb1.size;simp at this;omega
 have R1:w1.heap[w.heap.size]? =some (.cells #[St [],St []] 76 (0,0)):=(hb1.block _ (by simp)).trans (zG w _);clear hb1;go_wp21;refine zzM (HN.out _) λw2 hb2=>?_;have z2:w1.heap.size<w2.heap.size:=by have:=hb2.size;simp at this;omega
 have hB2:qL w w2:=(hB1.alloc hB1.size _).trans (hb2.mono (by simp;omega));have R2:w2.heap[w.heap.size]? =some (.cells #[St [],St []] 76 (0,0)):=(hb2.block _ (by simp;omega)).trans ((Below.heap_alloc _ _ _ (by omega)).trans R1);have P2:w2.heap[w1.heap.size]? =some (.cells #[.string sn,.string sd] 76 (0,0)):=(hb2.block _ (by simp)).trans (zG w1 _);have P20:w2.cell? ⟨w1.heap.size,0,none⟩=some (.string sn):=by simp[World.cell?,P2]
 have P21:w2.cell? ⟨w1.heap.size,1,none⟩=some (.string sd):=by simp[World.cell?,P2]
 have R20:w2.cell? ⟨w.heap.size,0,none⟩=some (St []):=by simp[World.cell?,R2]
 have R21:w2.cell? ⟨w.heap.size,1,none⟩=some (St []):=by simp[World.cell?,R2]
 have F20:w2.frozen? ⟨w.heap.size,0,none⟩=false:=by simp[World.frozen?,R2]
 have F21:w2.frozen? ⟨w.heap.size,1,none⟩=false:=by simp[World.frozen?,R2]
 have z3:w.heap.size<w2.heap.size:=by omega
 clear R1 hB1 hb2;go_wp21;refine(TP.out _).mono ?_;rintro e w3 ⟨rfl,rfl⟩;go_wp21;refine bodyPost_ret (v:=.tuple #[.agg #[.string sn,.string sd],.int .i64 0]) (by simp[results,Tryz.results68,go_sem,R20,R21,z3]) rfl ⟨rfl,?_⟩
 repeat(first|exact hB2|exact zM _ _|refine Below.alloc ?_ (by simp[World.setCell]<;>omega) _|refine zao ?_ _|refine Below.setCell ?_ (by simp) _)
theorem zoi (q:Rat) (h:¬zbb q) (hk:okQ q) (hd:q.den≠1) (hl:digs q.num<=800000) (hl2:(zD q.den).length<=800000) (w:zA) (hw:Wd w):
 qJ 68 #[St (numS q)] w (.tuple #[.agg #[St (zE q.num),St (zD q.den)],.int .i64 0]):=by
 have hc:=λW hW=>zoh q hl hl2 W hW;have hn:=λW=>zb5 q h hl hl2 W;obtain⟨sn,hsn⟩:=zzX (⟨(zE q.num).toArray⟩:ByteArray);obtain⟨sd,hsd⟩:=zzX (⟨(zD q.den).toArray⟩:ByteArray);obtain⟨own,hown⟩:=zzX (⟨(zD q.num.natAbs).toArray⟩:ByteArray);have htp:∀W:zA,zC zF 139 #[.string sn,.string ⟨#[45]⟩] W λe w'=>e=.returned (.string own)/\w'=W:=by
  intro W;have:=Tryz.strings_TrimPrefix sn ⟨#[45]⟩ W;rw[show sn.data.toList=zE q.num from by rw[hsn],show(⟨#[45]⟩:ByteArray).data.toList=[45] from rfl,zbi] at this;rw[hown];exact this
 have l1:own.size=digs q.num:=by rw[hown];exact zZ
 have l2:sd.size=(zD q.den).length:=by rw[hsd];exact zZ
 have s1:¬(300:Int)<own.size:=by have:=hk.1;omega
 have s2:¬(300:Int)<sd.size:=by have:=hk.2;omega
 have s3:(sd.toList==[49])=false:=zhl hsd 1 (by omega) hd;have hg:qK 110 #[.string sn,.string sd] (.tuple #[St [49],.int .i64 0]):=by
  intro W hW;have h2:digs (q.den:Int)<=300:=hk.2;have:=ztw q.num q.den hk.1 h2 W hW;rw[show(Int.gcd q.num (q.den:Int):Int)=1 from by have:=q.reduced;unfold Int.gcd;rw[Int.natAbs_natCast];unfold Nat.Coprime at this;rw[this];rfl,zmn,Str.zad q.den] at this;rw[hsn,hsd];exact this
 have hc:∀W,Wd W->qJ 138 #[St (numS q)] W (.tuple #[.agg #[.string sn,.string sd],.bool true]):=by rw[hsn,hsd];exact hc
 rw[show St (zE q.num)=.string sn from by rw[hsn],show St (zD q.den)=.string sd from by rw[hsd]];generalize numS q=s at hc hn⊢;have HC:=hid hc;have HN:=hid hn;have HW:=hid hw;have TP:=hid htp;have GC:=hid hg;clear hc hn hw h hsn hsd hown htp hg l1 l2 hl hl2 hk hd;go_enter Tryz.func68,Tryz.ntmps68;go_wp21;refine zzM (HC.out _ (HW.out.below ((zM _ w).alloc (zN _) _))) λw1 hb1=>?_;have hB1:qL w w1:=((zM _ w).alloc (zN _) _).trans (hb1.mono (by simp));have z1:w.heap.size<w1.heap.size:=by have:=hb1.size;simp at this;omega
 have R1:w1.heap[w.heap.size]? =some (.cells #[St [],St []] 76 (0,0)):=(hb1.block _ (by simp)).trans (zG w _);clear hb1;go_wp21;refine zzM (HN.out _) λw2 hb2=>?_;have z2:w1.heap.size<w2.heap.size:=by have:=hb2.size;simp at this;omega
 have hB2:qL w w2:=(hB1.alloc hB1.size _).trans (hb2.mono (by simp;omega));have R2:w2.heap[w.heap.size]? =some (.cells #[St [],St []] 76 (0,0)):=(hb2.block _ (by simp;omega)).trans ((Below.heap_alloc _ _ _ (by omega)).trans R1);have P2:w2.heap[w1.heap.size]? =some (.cells #[.string sn,.string sd] 76 (0,0)):=(hb2.block _ (by simp)).trans (zG w1 _);have P20:w2.cell? ⟨w1.heap.size,0,none⟩=some (.string sn):=by simp[World.cell?,P2]
 have P21:w2.cell? ⟨w1.heap.size,1,none⟩=some (.string sd):=by simp[World.cell?,P2]
 have R20:w2.cell? ⟨w.heap.size,0,none⟩=some (St []):=by simp[World.cell?,R2]
 have R21:w2.cell? ⟨w.heap.size,1,none⟩=some (St []):=by simp[World.cell?,R2]
 have F20:w2.frozen? ⟨w.heap.size,0,none⟩=false:=by simp[World.frozen?,R2]
 have F21:w2.frozen? ⟨w.heap.size,1,none⟩=false:=by simp[World.frozen?,R2]
 have z3:w.heap.size<w2.heap.size:=by omega
 clear R1 hB1 hb2;go_wp21;refine(TP.out _).mono ?_;rintro e w3 ⟨rfl,rfl⟩;go_wp21;have hb3':qL w (w2.alloc (.cells #[.int .i64 0,.int .i64 0] 69)):=hB2.alloc hB2.size _;refine zzM (GC.out _ (HW.out.below hb3')) λw3 hb3=>?_;have z4:w2.heap.size<w3.heap.size:=by have:=hb3.size;simp at this;omega
 have hB3:=hb3'.trans (hb3.mono (by simp;omega));have R3:w3.heap[w.heap.size]? =some (.cells #[St [],St []] 76 (0,0)):=(hb3.block _ (by simp;omega)).trans ((Below.heap_alloc _ _ _ (by omega)).trans R2);have P3:w3.heap[w1.heap.size]? =some (.cells #[.string sn,.string sd] 76 (0,0)):=(hb3.block _ (by simp;omega)).trans ((Below.heap_alloc _ _ _ (by omega)).trans P2);clear P20 P21 R20 R21 F20 F21;have P20:w3.cell? ⟨w1.heap.size,0,none⟩=some (.string sn):=by simp[World.cell?,P3]
 have P21:w3.cell? ⟨w1.heap.size,1,none⟩=some (.string sd):=by simp[World.cell?,P3]
 have R20:w3.cell? ⟨w.heap.size,0,none⟩=some (St []):=by simp[World.cell?,R3]
 have R21:w3.cell? ⟨w.heap.size,1,none⟩=some (St []):=by simp[World.cell?,R3]
 have F20:w3.frozen? ⟨w.heap.size,0,none⟩=false:=by simp[World.frozen?,R3]
 have F21:w3.frozen? ⟨w.heap.size,1,none⟩=false:=by simp[World.frozen?,R3]
 have z5:w.heap.size<w3.heap.size:=by omega
 clear R2 P2 R3 P3 hb3 hb3' hB2;go_wp21;refine bodyPost_ret (v:=.tuple #[.agg #[.string sn,.string sd],.int .i64 0]) (by simp[results,Tryz.results68,go_sem,R20,R21]) rfl ⟨rfl,?_⟩
 repeat(first|exact hB3|exact zM _ _|refine Below.alloc ?_ (by simp[World.setCell,World.drewN]<;>omega) _|refine zao ?_ _|refine Below.setCell ?_ (by simp) _)
theorem zek (q:Rat) (h:okQ q) (w:zA) (hw:Wd w):
 qJ 68 #[St (numS q)] w (.tuple #[.agg #[St (zE q.num),St (zD q.den)],.int .i64 0]):=by
 by_cases hs:zbb q
 ·exact zu2 q hs w hw
 ·by_cases hd:q.den=1
  ·exact zp1 q hs h hd (zO h.1 (by omega)) (zO h.2 (by omega)) w hw
  ·exact zoi q hs h hd (zO h.1 (by omega)) (zO h.2 (by omega)) w hw
theorem zfj (q:Rat) (h:okQ q) (w:zA) (hw:Wd w):
 qJ 45 #[St (numS q)] w (.int .i64 0):=by
 have hc:=λW hW=>zek q h W hW;generalize numS q=s at hc⊢;have HC:=hid hc;clear hc h;go_enter Tryz.func45,Tryz.ntmps45;go_wp21;refine zzM (HC.out _ hw) λw1 hb1=>?_;go_wp21;go_ret;exact⟨rfl,hb1.alloc hb1.size _⟩
theorem zww (a:List UInt8):Value.string ((⟨#[45]⟩:ByteArray)++(⟨a.toArray⟩:ByteArray))=St (45::a):=by
 congr 1
theorem zk3 (x:Int) (hx:digs x<=800000) (w:zA):
 qJ 109 #[St (zE x)] w (St (zE (-x))):=by
 obtain⟨s,hs⟩:=zzX (⟨(zE x).toArray⟩:ByteArray);obtain⟨own,hown⟩:=zzX (⟨(zD x.natAbs).toArray⟩:ByteArray);have hcp:∀W:zA,zC zF 183 #[.string s,.string ⟨#[45]⟩] W λe w'=>e=.returned (.tuple #[.string own,.bool (decide (x<0))])/\w'=W:=by
  intro W;have:=Tryz.strings_CutPrefix s ⟨#[45]⟩ W;rw[show s.data.toList=zE x from by rw[hs],show(⟨#[45]⟩:ByteArray).data.toList=[45] from rfl,zbi,zdx] at this;rw[hown];exact this
 have z:s.size<=800001:=by
  rw[hs];show(zE x).toArray.size<=_;have:=za7 x;simp;omega
 have HCP:=hid hcp;rw[show St (zE x)=.string s from by rw[hs]];rcases Int.lt_trichotomy x 0 with hn|h0|hp
 ·have ho:St (zE (-x))=.string own:=by rw[hown,show-x=((x.natAbs:Nat):Int) from by omega,Str.zad]
  have ht:(s.toList==[48])=false:=by
   rw[beq_eq_false_iff_ne,zfo hs];intro e;have:=zdo (e.trans zb9.symm);omega
  rw[ho];rw[decide_eq_true hn] at hcp;have HCP:=hid hcp;clear ho hs hown hcp hn hx;go_enter Tryz.func109,Tryz.ntmps109;go_wp21;refine(HCP.out _).mono ?_;rintro e w1 ⟨rfl,rfl⟩;go_wp21;go_ret;exact⟨rfl,zM _ _⟩
 ·subst h0
  have ht:(s.toList==[48])=true:=by rw[zfo hs,zb9];rfl
  rw[show-(0:Int)=0 from rfl,show St (zE 0)=.string s from by rw[hs]];clear hs hown hcp hx;go_enter Tryz.func109,Tryz.ntmps109;go_wp21;go_ret;exact⟨rfl,zM _ _⟩
 ·have ho:St (zE (-x))=.string ((⟨#[45]⟩:ByteArray)++s):=by
   rw[hs,zww,show x=((x.natAbs:Nat):Int) from by omega,Str.zga _ (by omega),Str.zad]
  have ht:(s.toList==[48])=false:=by
   rw[beq_eq_false_iff_ne,zfo hs];intro e;have:=zdo (e.trans zb9.symm);omega
  rw[ho];rw[decide_eq_false (by omega)] at hcp;have HCP:=hid hcp;clear ho hs hown hcp hp hx;go_enter Tryz.func109,Tryz.ntmps109;go_wp21;refine(HCP.out _).mono ?_;rintro e w1 ⟨rfl,rfl⟩;go_wp21;go_ret;exact⟨rfl,zM _ _⟩
theorem zg1 (a b sx sy sg sqn sqd res:ByteArray) (neg:Bool) (hp:∀W:zA,zC zF 46 #[.string b,.string ⟨#[45]⟩] W λe w'=>e=.returned (.bool neg)/\w'=W)
 (op:(neg=false/\sx=a/\sy=b)\/(neg=true/\Hid (qK 109 #[.string a] (.string sx))/\
   Hid (qK 109 #[.string b] (.string sy))))
 (gc:qK 110 #[.string sx,.string sy] (.tuple #[.string sg,.int .i64 0]))
 (h:((sg.toList==[49])=true/\(sy.toList==[49])=true/\res=sx)\/((sg.toList==[49])=true/\(sy.toList==[49])=false/\sx.size<=400/\sy.size<=400/\res=sx++⟨#[47]⟩++sy)\/
   ((sg.toList==[49])=false/\Hid (qK 111 #[.string sx,.string sg] (.tuple #[.string sqn,St [48],.int .i64 0]))/\
     Hid (qK 111 #[.string sy,.string sg] (.tuple #[.string sqd,St [48],.int .i64 0]))/\
     (((sqd.toList==[49])=true/\res=sqn)\/((sqd.toList==[49])=false/\sqn.size<=400/\sqd.size<=400/\res=sqn++⟨#[47]⟩++sqd))))
 (w:zA) (hw:Wd w):
 qJ 42 #[.string a,.string b] w (.tuple #[.string res,.int .i64 0]):=by
 have HP:=hid hp;have GC:=hid gc;have HW:=hid hw;clear hp gc hw;rcases op with⟨rfl,rfl,rfl⟩|⟨rfl,OPX,OPY⟩<;>rcases h with⟨g1,d1,rfl⟩|⟨g1,d1,z1,z2,rfl⟩|⟨g1,DVN,DVD,⟨d1,rfl⟩|⟨d1,z1,z2,rfl⟩⟩
 all_goals
  have HB:=hid (zM w.heap.size w);go_enter Tryz.func42,Tryz.ntmps42;go_wp21;refine(HP.out _).mono ?_;rintro e w0 ⟨rfl,rfl⟩;go_wp21
  try
   refine zzM (OPX.out _ (HW.out.below HB.out)) λw1 hb=>?_;replace HB:=qT HB hb;clear hb;go_wp21;refine zzM (OPY.out _ (HW.out.below HB.out)) λw2 hb=>?_;replace HB:=qT HB hb;clear hb;go_wp21
  refine zzM (GC.out _ (HW.out.below HB.out)) λw3 hb=>?_;replace HB:=qT HB hb;clear hb;go_wp21
  try
   refine zzM (DVN.out _ (HW.out.below HB.out)) λw4 hb=>?_;replace HB:=qT HB hb;clear hb;go_wp21;refine zzM (DVD.out _ (HW.out.below HB.out)) λw5 hb=>?_;replace HB:=qT HB hb;clear hb;go_wp21
  go_ret2;exact⟨rfl,HB.out⟩
theorem zgf {l:List UInt8} {s:ByteArray} (h:s=⟨l.toArray⟩):St l=.string s:=by rw[h]
theorem zh2 {n:Int} {s:ByteArray} (hs:s=⟨(zE n).toArray⟩) (b:Bool) (h:(n=1)↔b=true):(s.toList==[49])=b:=by
 rw[zfo hs]
 cases b with
 |true=>rw[beq_iff_eq,h.2 rfl,zmn]
 |false=>rw[beq_eq_false_iff_ne];intro e;exact absurd (h.1 (zdo (e.trans zmn.symm))) (by simp)
theorem zj2 {x y:Int} (h:x.natAbs<=y.natAbs):digs x<=digs y:=by
 unfold digs;have hy:=(zaf y.natAbs (digs y) (zbn y)).1 (zN _);exact(zaf x.natAbs (digs y) (zbn y)).2 (Nat.lt_of_le_of_lt h hy)
theorem zfa (x y:Int) (hy:y≠0) (hx3:digs x<=300) (hy3:digs y<=300) (w:zA) (hw:Wd w):
 qJ 42 #[St (zE x),St (zE y)] w (.tuple #[St (numS (Rat.divInt x y)),.int .i64 0]):=by
 obtain⟨a,ha⟩:=zzX (⟨(zE x).toArray⟩:ByteArray);obtain⟨b,hb⟩:=zzX (⟨(zE y).toArray⟩:ByteArray);rw[zgf ha,zgf hb];have hhp:∀W:zA,zC zF 46 #[.string b,.string ⟨#[45]⟩] W λe w'=>e=.returned (.bool (decide (y<0)))/\w'=W:=by
  intro W;have:=Tryz.strings_HasPrefix b ⟨#[45]⟩ W;rw[show b.data.toList=zE y from by rw[hb],show(⟨#[45]⟩:ByteArray).data.toList=[45] from rfl,zdx] at this;exact this
 have key:∀X Y:Int,0<Y->Rat.divInt X Y=Rat.divInt x y->digs X<=300->digs Y<=300->(∀sx sy:ByteArray,sx=⟨(zE X).toArray⟩->sy=⟨(zE Y).toArray⟩->(decide (y<0)=false/\sx=a/\sy=b)\/(decide (y<0)=true/\Hid (qK 109 #[.string a] (.string sx))/\
  Hid (qK 109 #[.string b] (.string sy))))->
  qJ 42 #[.string a,.string b] w (.tuple #[St (numS (Rat.divInt x y)),.int .i64 0]):=by
  intro X Y hY hXY hX3 hY3 H;obtain⟨g,hg⟩:=zzX (Int.gcd X Y:Nat);have hg0:0<g:=by rw[hg];exact Int.gcd_pos_of_ne_zero_right _ (by omega)
  have hgX:(g:Int)∣X:=by rw[hg];exact Int.gcd_dvd_left _ _
  have hgY:(g:Int)∣Y:=by rw[hg];exact Int.gcd_dvd_right _ _
  have hm:=zif X Y hY;rw[hXY,<-hg] at hm;have hXe:X=X/(g:Int)*g:=(Int.ediv_mul_cancel hgX).symm;have hYe:Y=Y/(g:Int)*g:=(Int.ediv_mul_cancel hgY).symm;have hqn3:digs (X/(g:Int))<=300:=zO (zj2 (by rw[Int.natAbs_ediv_of_dvd hgX];exact Nat.div_le_self _ _)) hX3;have hqd3:digs (Y/(g:Int))<=300:=zO (zj2 (by rw[Int.natAbs_ediv_of_dvd hgY];exact Nat.div_le_self _ _)) hY3;have hg3:digs (g:Int)<=300:=zO (zj2 (by have:=Int.le_of_dvd hY hgY;omega)) hY3;have hsz:∀(z:Int) (s:ByteArray),s=⟨(zE z).toArray⟩->digs z<=300->s.size<=400:=by
   intro z s hs hz;have h1:=za7 z;have:s.size=(zE z).length:=by rw[hs];exact zZ
   omega
  obtain⟨sx,hsx⟩:=zzX (⟨(zE X).toArray⟩:ByteArray);obtain⟨sy,hsy⟩:=zzX (⟨(zE Y).toArray⟩:ByteArray);obtain⟨sg,hsg⟩:=zzX (⟨(zE (g:Int)).toArray⟩:ByteArray);obtain⟨sqn,hsqn⟩:=zzX (⟨(zE (X/(g:Int))).toArray⟩:ByteArray);obtain⟨sqd,hsqd⟩:=zzX (⟨(zE (Y/(g:Int))).toArray⟩:ByteArray);have hgc:qK 110 #[.string sx,.string sy] (.tuple #[.string sg,.int .i64 0]):=by
   intro W hW;have:=ztw X Y hX3 hY3 W hW;rw[hsx,hsy,hsg,hg];exact this
  have hdn:qK 111 #[.string sx,.string sg] (.tuple #[.string sqn,St [48],.int .i64 0]):=by
   intro W hW;have:=zky X g _ hXe (by omega) hX3 hg3 W hW;rw[hsx,hsg,hsqn];exact this
  have hdd:qK 111 #[.string sy,.string sg] (.tuple #[.string sqd,St [48],.int .i64 0]):=by
   intro W hW;have:=zky Y g _ hYe (by omega) hY3 hg3 W hW;rw[hsy,hsg,hsqd];exact this
  have hres:∃res:ByteArray,St (numS (Rat.divInt x y))=.string res:=⟨_,rfl⟩;obtain⟨res,hr⟩:=hres;rw[hr];refine zg1 a b sx sy sg sqn sqd res _ hhp (H sx sy hsx hsy) hgc ?_ w hw;have hsg1:=λb h=>zh2 hsg b h;have hres':∀r:ByteArray,Value.string r=St (numS (Rat.divInt x y))->res=r:=λr h=>by rw[hr] at h;injection h with h;exact h.symm
  by_cases hg1:g=1
  ·have eX:X/(g:Int)=X:=by rw[hg1];exact Int.ediv_one X
   have eY:Y/(g:Int)=Y:=by rw[hg1];exact Int.ediv_one Y
   rw[eX,eY] at hm;have h1:=hsg1 true (by simp[hg1]);by_cases hY1:Y=1
   ·refine .inl ⟨h1,zh2 hsy true (by simp[hY1]),hres' _ ?_⟩
    rw[hm,if_pos hY1,List.append_nil,hsx]
   ·refine .inr (.inl ⟨h1,zh2 hsy false (by simp[hY1]),hsz _ _ hsx hX3,hsz _ _ hsy hY3,hres' _ ?_⟩)
    rw[hm,if_neg hY1,hsx,hsy,zik]
  ·refine .inr (.inr ⟨hsg1 false (by simp;omega),hid hdn,hid hdd,?_⟩)
   by_cases hY1:Y/(g:Int)=1
   ·refine .inl ⟨zh2 hsqd true (by simp[hY1]),hres' _ ?_⟩
    rw[hm,if_pos hY1,List.append_nil,hsqn]
   ·refine .inr ⟨zh2 hsqd false (by simp[hY1]),hsz _ _ hsqn hqn3,hsz _ _ hsqd hqd3,hres' _ ?_⟩
    rw[hm,if_neg hY1,hsqn,hsqd,zik]
 rcases Int.lt_or_lt_of_ne hy with hn|hp
 ·refine key (-x) (-y) (by omega) ?_ (by unfold digs at*;rw[Int.natAbs_neg];exact hx3) (by unfold digs at*;rw[Int.natAbs_neg];exact hy3) (λsx sy hsx hsy=>.inr ⟨decide_eq_true hn,hid λW _=>?_,hid λW _=>?_⟩)
  ·rw[zjd x y hn,show-y=((y.natAbs:Nat):Int) from by omega]
  ·rw[ha,hsx];exact zk3 x (by omega) W
  ·rw[hb,hsy];exact zk3 y (by omega) W
 ·exact key x y hp rfl hx3 hy3 λsx sy hsx hsy=>.inl ⟨decide_eq_false (by omega),by rw[hsx,ha],by rw[hsy,hb]⟩
theorem zbs {x y:Int} (hx: -100000000<x/\x<100000000) (hy: -100000000<y/\y<100000000): -10000000000000000<x*y/\x*y<10000000000000000:=by
 have h1:x.natAbs<=99999999:=by omega
 have h2:y.natAbs<=99999999:=by omega
 have h3:(x*y).natAbs<=99999999*99999999:=by rw[Int.natAbs_mul];exact Nat.mul_le_mul h1 h2
 omega
theorem nadd (n1 d1 n2 d2:Int) (a1: -100000000<n1/\n1<100000000) (b1: -100000000<d1/\d1<100000000) (a2: -100000000<n2/\n2<100000000) (b2: -100000000<d2/\d2<100000000) (w:zA):
 qJ 43 #[.agg #[.int .i64 n1,.int .i64 d1],.agg #[.int .i64 n2,.int .i64 d2]] w (.agg #[.int .i64 (n1*d2+n2*d1),.int .i64 (d1*d2)]):=by
 have p0:=zbs a1 b2;have v0:IntKind.i64.wrap (n1*d2)=n1*d2:=zI _ (by omega);have p1:=zbs a2 b1;have v1:IntKind.i64.wrap (n2*d1)=n2*d1:=zI _ (by omega);have p2:=zbs b1 b2;have v2:IntKind.i64.wrap (d1*d2)=d1*d2:=zI _ (by omega);have v3:IntKind.i64.wrap (n1*d2+n2*d1)=n1*d2+n2*d1:=zI _ (by omega);clear p0 p1 p2;clear a1 b1 a2 b2;go_enter Tryz.func43,Tryz.ntmps43;go_wp21;refine bodyPost_ret (v:=.agg #[.int .i64 (n1*d2+n2*d1),.int .i64 (d1*d2)]) (by simp[results,Tryz.results43,go_sem]) rfl ⟨rfl,?_⟩
 repeat(first|exact zM _ _|refine Below.alloc ?_ (by simp<;>omega) _|refine zao ?_ _|refine Below.setCell ?_ (by simp<;>omega) _)
theorem nsub (n1 d1 n2 d2:Int) (a1: -100000000<n1/\n1<100000000) (b1: -100000000<d1/\d1<100000000) (a2: -100000000<n2/\n2<100000000) (b2: -100000000<d2/\d2<100000000) (w:zA):
 qJ 35 #[.agg #[.int .i64 n1,.int .i64 d1],.agg #[.int .i64 n2,.int .i64 d2]] w (.agg #[.int .i64 (n1*d2-n2*d1),.int .i64 (d1*d2)]):=by
 have p0:=zbs a1 b2;have v0:IntKind.i64.wrap (n1*d2)=n1*d2:=zI _ (by omega);have p1:=zbs a2 b1;have v1:IntKind.i64.wrap (n2*d1)=n2*d1:=zI _ (by omega);have p2:=zbs b1 b2;have v2:IntKind.i64.wrap (d1*d2)=d1*d2:=zI _ (by omega);have v3:IntKind.i64.wrap (n1*d2-n2*d1)=n1*d2-n2*d1:=zI _ (by omega);clear p0 p1 p2;clear a1 b1 a2 b2;go_enter Tryz.func35,Tryz.ntmps35;go_wp21;refine bodyPost_ret (v:=.agg #[.int .i64 (n1*d2-n2*d1),.int .i64 (d1*d2)]) (by simp[results,Tryz.results35,go_sem]) rfl ⟨rfl,?_⟩
 repeat(first|exact zM _ _|refine Below.alloc ?_ (by simp<;>omega) _|refine zao ?_ _|refine Below.setCell ?_ (by simp<;>omega) _)
theorem nmul (n1 d1 n2 d2:Int) (a1: -100000000<n1/\n1<100000000) (b1: -100000000<d1/\d1<100000000) (a2: -100000000<n2/\n2<100000000) (b2: -100000000<d2/\d2<100000000) (w:zA):
 qJ 39 #[.agg #[.int .i64 n1,.int .i64 d1],.agg #[.int .i64 n2,.int .i64 d2]] w (.agg #[.int .i64 (n1*n2),.int .i64 (d1*d2)]):=by
 have p0:=zbs a1 a2;have v0:IntKind.i64.wrap (n1*n2)=n1*n2:=zI _ (by omega);have p1:=zbs b1 b2;have v1:IntKind.i64.wrap (d1*d2)=d1*d2:=zI _ (by omega);clear p0 p1;clear a1 b1 a2 b2;go_enter Tryz.func39,Tryz.ntmps39;go_wp21;refine bodyPost_ret (v:=.agg #[.int .i64 (n1*n2),.int .i64 (d1*d2)]) (by simp[results,Tryz.results39,go_sem]) rfl ⟨rfl,?_⟩
 repeat(first|exact zM _ _|refine Below.alloc ?_ (by simp<;>omega) _|refine zao ?_ _|refine Below.setCell ?_ (by simp<;>omega) _)
theorem ndiv (n1 d1 n2 d2:Int) (a1: -100000000<n1/\n1<100000000) (b1: -100000000<d1/\d1<100000000) (a2: -100000000<n2/\n2<100000000) (b2: -100000000<d2/\d2<100000000) (w:zA):
 qJ 175 #[.agg #[.int .i64 n1,.int .i64 d1],.agg #[.int .i64 n2,.int .i64 d2]] w (.agg #[.int .i64 (n1*d2),.int .i64 (d1*n2)]):=by
 have p0:=zbs a1 b2;have v0:IntKind.i64.wrap (n1*d2)=n1*d2:=zI _ (by omega);have p1:=zbs b1 a2;have v1:IntKind.i64.wrap (d1*n2)=d1*n2:=zI _ (by omega);clear p0 p1;clear a1 b1 a2 b2;go_enter Tryz.func175,Tryz.ntmps175;go_wp21;refine bodyPost_ret (v:=.agg #[.int .i64 (n1*d2),.int .i64 (d1*n2)]) (by simp[results,Tryz.results175,go_sem]) rfl ⟨rfl,?_⟩
 repeat(first|exact zM _ _|refine Below.alloc ?_ (by simp<;>omega) _|refine zao ?_ _|refine Below.setCell ?_ (by simp<;>omega) _)
theorem zhc (n1 n2:Int) (d1 d2:Nat) (h1:digs n1<=300) (h2:digs n2<=300) (h3:(zD d1).length<=300) (h4:(zD d2).length<=300) (k1:digs (n1*d2)<=300) (w:zA) (hw:Wd w):
 zC zF 69 #[.agg #[St (zE n1),St (zD d1)],.agg #[St (zE n2),St (zD d2)]] w λe w'=>
  e=.returned (.tuple #[St (zE (n1*d2)),St (resL (n2*d1)),.int .i64 (resE (n2*d1))])/\Below w.heap.size w w':=by
 have m1:=λW hW=>zhk n1 d2 h1 (by unfold digs;rw[Int.natAbs_natCast];exact h4) W hW;have m2:=λW hW=>zhk n2 d1 h2 (by unfold digs;rw[Int.natAbs_natCast];exact h3) W hW;rw[zcf k1,zcg k1,Str.zad] at m1;rw[Str.zad] at m2;generalize zE n1=s1 at m1⊢;generalize zE n2=s2 at m2⊢;generalize zD d1=t1 at m2⊢;generalize zD d2=t2 at m1⊢;generalize zE (n1*d2)=u at m1⊢;generalize resL (n2*d1)=v at m2⊢;generalize resE (n2*d1)=x at m2⊢;have M1:=hid m1;have M2:=hid m2;have HW:=hid hw;clear m1 m2 hw h1 h2 h3 h4 k1;obtain⟨W3,hW3⟩:=zzX ((w.alloc (.cells #[St s1,St t1] 76)).alloc (.cells #[St s2,St t2] 76));have hB0:qL w W3:=by rw[hW3];exact((zM _ w).alloc (zN _) _).alloc (by simp) _
 have z0:W3.heap.size=w.heap.size+1+1:=by rw[hW3];simp
 have A3:W3.heap[w.heap.size]? =some (.cells #[St s1,St t1] 76 (0,0)):=by
  rw[hW3];exact(Below.heap_alloc _ _ _ (by simp only[zH];omega)).trans (zG w _)
 have B3:W3.heap[w.heap.size+1]? =some (.cells #[St s2,St t2] 76 (0,0)):=by
  have:=zG (w.alloc (.cells #[St s1,St t1] 76)) (.cells #[St s2,St t2] 76 (0,0));rw[zH] at this;rw[hW3];exact this
 have HW3:=hid hW3;clear hW3;go_enter Tryz.func69,Tryz.ntmps69;go_wp21;rw[<-HW3.out];refine zzM (M1.out _ (HW.out.below hB0)) λw4 hb4=>?_;have hB4:=hB0.trans (hb4.mono hB0.size);have A4:w4.heap[w.heap.size]? =some (.cells #[St s1,St t1] 76 (0,0)):=(hb4.block _ (by omega)).trans A3;have B4:w4.heap[w.heap.size+1]? =some (.cells #[St s2,St t2] 76 (0,0)):=(hb4.block _ (by omega)).trans B3;have A41:w4.cell? ⟨w.heap.size,1,none⟩=some (St t1):=by simp[World.cell?,A4]
 have B40:w4.cell? ⟨w.heap.size+1,0,none⟩=some (St s2):=by simp[World.cell?,B4]
 clear hb4 A3 B3 z0;go_wp21;refine zzM (M2.out _ (HW.out.below hB4)) λw5 hb5=>?_;have hB5:=hB4.trans (hb5.mono hB4.size);clear hb5 A4 B4 A41 B40;go_wp21;go_ret3;exact⟨rfl,hB5⟩
theorem zd9 (n:Nat):digs (n:Int)=(zD n).length:=by unfold digs;rw[Int.natAbs_natCast]
def zb1 (q:Rat):Value:=.agg #[St (zE q.num),St (zD q.den)]
theorem zt7 (a b:Rat) (ha:okQ a) (hb:okQ b) (h1:digs (a.num*b.num)<=300) (h2:(zD (a.den*b.den)).length<=300) (w:zA) (hw:Wd w):
 qJ 40 #[zb1 a,zb1 b] w (.tuple #[St (numS (a*b)),.int .i64 0]):=by
 have m1:=λW hW=>zhk a.num b.num ha.1 hb.1 W hW;have m2:=λW hW=>zhk (a.den:Int) (b.den:Int) (by rw[zd9];exact ha.2) (by rw[zd9];exact hb.2) W hW;rw[<-Int.natCast_mul,Str.zad,Str.zad] at m2;have h2':digs ((a.den*b.den:Nat):Int)<=300:=by rw[zd9];exact h2
 rw[zcf h1,zcg h1] at m1;rw[zcf h2',zcg h2'] at m2;have hn:=λW hW=>zfa (a.num*b.num) ((a.den*b.den:Nat):Int) (by have:=Nat.mul_pos a.den_pos b.den_pos;omega) h1 h2' W hW;rw[<-zf1] at hn;unfold zb1;generalize zE a.num=s1 at m1⊢;generalize zE b.num=s2 at m1⊢;generalize zD a.den=t1 at m2⊢;generalize zD b.den=t2 at m2⊢;generalize zE (a.num*b.num)=u at m1 hn;generalize zE ((a.den*b.den:Nat):Int)=v at m2 hn;generalize numS (a*b)=r at hn⊢;have M1:=hid m1;have M2:=hid m2;have HN:=hid hn;have HW:=hid hw;clear m1 m2 hn hw h1 h2 h2' ha hb;obtain⟨W3,hW3⟩:=zzX ((w.alloc (.cells #[St s1,St t1] 76)).alloc (.cells #[St s2,St t2] 76));have hB0:qL w W3:=by rw[hW3];exact((zM _ w).alloc (zN _) _).alloc (by simp) _
 have z0:W3.heap.size=w.heap.size+1+1:=by rw[hW3];simp
 have A3:W3.heap[w.heap.size]? =some (.cells #[St s1,St t1] 76 (0,0)):=by
  rw[hW3];exact(Below.heap_alloc _ _ _ (by simp only[zH];omega)).trans (zG w _)
 have B3:W3.heap[w.heap.size+1]? =some (.cells #[St s2,St t2] 76 (0,0)):=by
  have:=zG (w.alloc (.cells #[St s1,St t1] 76)) (.cells #[St s2,St t2] 76 (0,0));rw[zH] at this;rw[hW3];exact this
 have HW3:=hid hW3;clear hW3;go_enter Tryz.func40,Tryz.ntmps40;go_wp21;rw[<-HW3.out];refine zzM (M1.out _ (HW.out.below hB0)) λw4 hb4=>?_;have hB4:=hB0.trans (hb4.mono hB0.size);have A4:w4.heap[w.heap.size]? =some (.cells #[St s1,St t1] 76 (0,0)):=(hb4.block _ (by omega)).trans A3;have B4:w4.heap[w.heap.size+1]? =some (.cells #[St s2,St t2] 76 (0,0)):=(hb4.block _ (by omega)).trans B3;have A41:w4.cell? ⟨w.heap.size,1,none⟩=some (St t1):=by simp[World.cell?,A4]
 have B41:w4.cell? ⟨w.heap.size+1,1,none⟩=some (St t2):=by simp[World.cell?,B4]
 clear hb4 A3 B3 z0;go_wp21;refine zzM (M2.out _ (HW.out.below hB4)) λw5 hb5=>?_;have hB5:=hB4.trans (hb5.mono hB4.size);clear hb5 A4 B4 A41 B41;go_wp21;refine zzM (HN.out _ (HW.out.below hB5)) λw6 hb6=>?_;have hB6:=hB5.trans (hb6.mono hB5.size);clear hb6;go_wp21;go_ret2;exact⟨rfl,hB6⟩
theorem z1o (a b:Rat) (hb0:b≠0) (ha:okQ a) (hb:okQ b) (h1:digs (a.num*b.den)<=300) (h2:digs (b.num*a.den)<=300) (w:zA) (hw:Wd w):
 qJ 176 #[zb1 a,zb1 b] w (.tuple #[St (numS (a/b)),.int .i64 0]):=by
 have m1:=λW hW=>zhc a.num b.num a.den b.den ha.1 hb.1 ha.2 hb.2 h1 W hW;rw[zcf h2,zcg h2] at m1;have hnz:b.num≠0:=λh=>hb0 (Rat.num_eq_zero.1 h);have hdz:b.num*(a.den:Int)≠0:=Int.mul_ne_zero hnz (by have:=a.den_pos;omega);have hn:=λW hW=>zfa (a.num*b.den) (b.num*a.den) hdz h1 h2 W hW;rw[Int.mul_comm b.num,<-zjx a b hb0,Int.mul_comm (a.den:Int)] at hn;have hz:((⟨(zE b.num).toArray⟩:ByteArray).toList==[48])=false:=by
  rw[beq_eq_false_iff_ne,ByteArray.toList_eq];intro e;exact hnz (zdo ((show zE b.num=[48] from by simpa using e).trans zb9.symm))
 unfold zb1;generalize zE a.num=s1 at m1⊢;generalize zE b.num=s2 at m1 hz⊢;generalize zD a.den=t1 at m1⊢;generalize zD b.den=t2 at m1⊢;generalize zE (a.num*b.den)=u at m1 hn;generalize zE (b.num*a.den)=v at m1 hn;generalize numS (a/b)=r at hn⊢;obtain⟨S2,hS2⟩:=zzX (⟨s2.toArray⟩:ByteArray);rw[show St s2=.string S2 from by rw[hS2]] at m1⊢;rw[<-hS2] at hz;have M1:=hid m1;have HN:=hid hn;have HW:=hid hw;clear m1 hn hw h1 h2 ha hb hS2 hnz hdz hb0;have hB0:qL w ((w.alloc (.cells #[St s1,St t1] 76)).alloc (.cells #[.string S2,St t2] 76)):=((zM _ w).alloc (zN _) _).alloc (by simp) _;go_enter Tryz.func176,Tryz.ntmps176;go_wp21;refine zzM (M1.out _ (HW.out.below hB0)) λw4 hb4=>?_;have hB4:=hB0.trans (hb4.mono hB0.size);clear hb4;go_wp21;refine zzM (HN.out _ (HW.out.below hB4)) λw6 hb6=>?_;have hB6:=hB4.trans (hb6.mono hB4.size);clear hb6;go_wp21;go_ret2;exact⟨rfl,hB6⟩
theorem zy8 (a b:Rat) (ha:okQ a) (hb:okQ b) (h1:digs (a.num*b.den)<=300) (h2:digs (b.num*a.den)<=300) (h3:digs (a.num*b.den+b.num*a.den)<=300) (h4:(zD (a.den*b.den)).length<=300)
 (c:Nat) (w:zA) (hc:w.cell? ⟨c,0,none⟩=some (.func (.func 44) #[] #[])) (hw:Wd w):
 qJ 101 #[zb1 a,zb1 b,.pointer (some ⟨c,0,none⟩)] w (.tuple #[St (numS (a+b)),.int .i64 0]):=by
 have m1:=λW hW=>zhc a.num b.num a.den b.den ha.1 hb.1 ha.2 hb.2 h1 W hW;rw[zcf h2,zcg h2] at m1;have m3:=λW hW=>z1c (a.num*b.den) (b.num*a.den) h1 h2 W hW;rw[zcf h3,zcg h3] at m3;have m2:=λW hW=>zhk (a.den:Int) (b.den:Int) (by rw[zd9];exact ha.2) (by rw[zd9];exact hb.2) W hW;rw[<-Int.natCast_mul,Str.zad,Str.zad] at m2;have h4':digs ((a.den*b.den:Nat):Int)<=300:=by rw[zd9];exact h4
 rw[zcf h4',zcg h4'] at m2;have hn:=λW hW=>zfa (a.num*b.den+b.num*a.den) ((a.den*b.den:Nat):Int) (by have:=Nat.mul_pos a.den_pos b.den_pos;omega) h3 h4' W hW;rw[<-zf0] at hn;unfold zb1;generalize zE a.num=s1 at m1⊢;generalize zE b.num=s2 at m1⊢;generalize zD a.den=t1 at m1 m2⊢;generalize zD b.den=t2 at m1 m2⊢;generalize zE (a.num*b.den+b.num*a.den)=u at m3 hn;generalize zE (a.num*b.den)=u1 at m1 m3;generalize zE (b.num*a.den)=u2 at m1 m3;generalize zE ((a.den*b.den:Nat):Int)=v at m2 hn;generalize numS (a+b)=r at hn⊢;have M1:=hid m1;have M2:=hid m2;have M3:=hid m3;have HN:=hid hn;have HW:=hid hw;clear m1 m2 m3 hn hw h1 h2 h3 h4 h4' ha hb;have zc:=zbe hc;dsimp only at zc;obtain⟨W3,hW3⟩:=zzX ((w.alloc (.cells #[St s1,St t1] 76)).alloc (.cells #[St s2,St t2] 76));have hB0:qL w W3:=by rw[hW3];exact((zM _ w).alloc (zN _) _).alloc (by simp) _
 have z0:W3.heap.size=w.heap.size+1+1:=by rw[hW3];simp
 have A3:W3.heap[w.heap.size]? =some (.cells #[St s1,St t1] 76 (0,0)):=by
  rw[hW3];exact(Below.heap_alloc _ _ _ (by simp only[zH];omega)).trans (zG w _)
 have B3:W3.heap[w.heap.size+1]? =some (.cells #[St s2,St t2] 76 (0,0)):=by
  have:=zG (w.alloc (.cells #[St s1,St t1] 76)) (.cells #[St s2,St t2] 76 (0,0));rw[zH] at this;rw[hW3];exact this
 have HW3:=hid hW3;clear hW3;go_enter Tryz.func101,Tryz.ntmps101;go_wp21;rw[<-HW3.out];refine zzM (M1.out _ (HW.out.below hB0)) λw4 hb4=>?_;have hB4:=hB0.trans (hb4.mono hB0.size);have A4:w4.heap[w.heap.size]? =some (.cells #[St s1,St t1] 76 (0,0)):=(hb4.block _ (by omega)).trans A3;have B4:w4.heap[w.heap.size+1]? =some (.cells #[St s2,St t2] 76 (0,0)):=(hb4.block _ (by omega)).trans B3;have z4:W3.heap.size<=w4.heap.size:=hb4.size;have C4:w4.cell? ⟨c,0,none⟩=some (.func (.func 44) #[] #[]):=by rw[hB4.cell (p:=⟨c,0,none⟩) zc];exact hc
 have HC:=hid hc;clear hc;clear hb4 A3 B3;go_wp21;refine zzM (M3.out _ (HW.out.below hB4)) λw5 hb5=>?_;have hB5:=hB4.trans (hb5.mono hB4.size);have A5:w5.heap[w.heap.size]? =some (.cells #[St s1,St t1] 76 (0,0)):=(hb5.block _ (by omega)).trans A4;have B5:w5.heap[w.heap.size+1]? =some (.cells #[St s2,St t2] 76 (0,0)):=(hb5.block _ (by omega)).trans B4;have A51:w5.cell? ⟨w.heap.size,1,none⟩=some (St t1):=by simp[World.cell?,A5]
 have B51:w5.cell? ⟨w.heap.size+1,1,none⟩=some (St t2):=by simp[World.cell?,B5]
 clear hb5 A4 B4 C4 A5 B5;go_wp21;refine zzM (M2.out _ (HW.out.below hB5)) λw6 hb6=>?_;have hB6:=hB5.trans (hb6.mono hB5.size);clear hb6 A51 B51;go_wp21;refine zzM (HN.out _ (HW.out.below hB6)) λw7 hb7=>?_;have hB7:=hB6.trans (hb7.mono hB6.size);clear hb7;go_wp21;go_ret2;exact⟨rfl,hB7⟩
theorem zy9 (a b:Rat) (ha:okQ a) (hb:okQ b) (h1:digs (a.num*b.den)<=300) (h2:digs (b.num*a.den)<=300) (h3:digs (a.num*b.den-b.num*a.den)<=300) (h4:(zD (a.den*b.den)).length<=300)
 (c:Nat) (w:zA) (hc:w.cell? ⟨c,0,none⟩=some (.func (.func 38) #[] #[])) (hw:Wd w):
 qJ 101 #[zb1 a,zb1 b,.pointer (some ⟨c,0,none⟩)] w (.tuple #[St (numS (a-b)),.int .i64 0]):=by
 have m1:=λW hW=>zhc a.num b.num a.den b.den ha.1 hb.1 ha.2 hb.2 h1 W hW;rw[zcf h2,zcg h2] at m1;have m3:=λW hW=>z1e (a.num*b.den) (b.num*a.den) h1 h2 W hW;rw[zcf h3,zcg h3] at m3;have m2:=λW hW=>zhk (a.den:Int) (b.den:Int) (by rw[zd9];exact ha.2) (by rw[zd9];exact hb.2) W hW;rw[<-Int.natCast_mul,Str.zad,Str.zad] at m2;have h4':digs ((a.den*b.den:Nat):Int)<=300:=by rw[zd9];exact h4
 rw[zcf h4',zcg h4'] at m2;have hn:=λW hW=>zfa (a.num*b.den-b.num*a.den) ((a.den*b.den:Nat):Int) (by have:=Nat.mul_pos a.den_pos b.den_pos;omega) h3 h4' W hW;rw[<-znk] at hn;unfold zb1;generalize zE a.num=s1 at m1⊢;generalize zE b.num=s2 at m1⊢;generalize zD a.den=t1 at m1 m2⊢;generalize zD b.den=t2 at m1 m2⊢;generalize zE (a.num*b.den-b.num*a.den)=u at m3 hn;generalize zE (a.num*b.den)=u1 at m1 m3;generalize zE (b.num*a.den)=u2 at m1 m3;generalize zE ((a.den*b.den:Nat):Int)=v at m2 hn;generalize numS (a-b)=r at hn⊢;have M1:=hid m1;have M2:=hid m2;have M3:=hid m3;have HN:=hid hn;have HW:=hid hw;clear m1 m2 m3 hn hw h1 h2 h3 h4 h4' ha hb;have zc:=zbe hc;dsimp only at zc;obtain⟨W3,hW3⟩:=zzX ((w.alloc (.cells #[St s1,St t1] 76)).alloc (.cells #[St s2,St t2] 76));have hB0:qL w W3:=by rw[hW3];exact((zM _ w).alloc (zN _) _).alloc (by simp) _
 have z0:W3.heap.size=w.heap.size+1+1:=by rw[hW3];simp
 have A3:W3.heap[w.heap.size]? =some (.cells #[St s1,St t1] 76 (0,0)):=by
  rw[hW3];exact(Below.heap_alloc _ _ _ (by simp only[zH];omega)).trans (zG w _)
 have B3:W3.heap[w.heap.size+1]? =some (.cells #[St s2,St t2] 76 (0,0)):=by
  have:=zG (w.alloc (.cells #[St s1,St t1] 76)) (.cells #[St s2,St t2] 76 (0,0));rw[zH] at this;rw[hW3];exact this
 have HW3:=hid hW3;clear hW3;go_enter Tryz.func101,Tryz.ntmps101;go_wp21;rw[<-HW3.out];refine zzM (M1.out _ (HW.out.below hB0)) λw4 hb4=>?_;have hB4:=hB0.trans (hb4.mono hB0.size);have A4:w4.heap[w.heap.size]? =some (.cells #[St s1,St t1] 76 (0,0)):=(hb4.block _ (by omega)).trans A3;have B4:w4.heap[w.heap.size+1]? =some (.cells #[St s2,St t2] 76 (0,0)):=(hb4.block _ (by omega)).trans B3;have z4:W3.heap.size<=w4.heap.size:=hb4.size;have C4:w4.cell? ⟨c,0,none⟩=some (.func (.func 38) #[] #[]):=by rw[hB4.cell (p:=⟨c,0,none⟩) zc];exact hc
 have HC:=hid hc;clear hc;clear hb4 A3 B3;go_wp21;refine zzM (M3.out _ (HW.out.below hB4)) λw5 hb5=>?_;have hB5:=hB4.trans (hb5.mono hB4.size);have A5:w5.heap[w.heap.size]? =some (.cells #[St s1,St t1] 76 (0,0)):=(hb5.block _ (by omega)).trans A4;have B5:w5.heap[w.heap.size+1]? =some (.cells #[St s2,St t2] 76 (0,0)):=(hb5.block _ (by omega)).trans B4;have A51:w5.cell? ⟨w.heap.size,1,none⟩=some (St t1):=by simp[World.cell?,A5]
 have B51:w5.cell? ⟨w.heap.size+1,1,none⟩=some (St t2):=by simp[World.cell?,B5]
 clear hb5 A4 B4 C4 A5 B5;go_wp21;refine zzM (M2.out _ (HW.out.below hB5)) λw6 hb6=>?_;have hB6:=hB5.trans (hb6.mono hB5.size);clear hb6 A51 B51;go_wp21;refine zzM (HN.out _ (HW.out.below hB6)) λw7 hb7=>?_;have hB7:=hB6.trans (hb7.mono hB6.size);clear hb7;go_wp21;go_ret2;exact⟨rfl,hB7⟩
theorem zk4 (f:Nat) (w:zA):
 zC zF 37 #[.func (.func f) #[] #[]] w λe w'=>∃t,e=.returned (.func (.func 101) #[] #[.pointer (some ⟨w.heap.size,0,none⟩)])/\w.alloc (.cells #[.func (.func f) #[] #[]] t)=w':=by
 go_enter Tryz.func37,Tryz.ntmps37;go_wp21;go_ret;exact⟨_,rfl,rfl⟩
theorem zo5 (a b:Rat) (ha:okQ a) (hb:okQ b) (c:Nat) (r:List UInt8) (w:zA) (hw:Wd w)
 (H:∀W:zA,qL w W->Wd W->qJ 101 #[zb1 a,zb1 b,.pointer (some ⟨c,0,none⟩)] W (.tuple #[St r,.int .i64 0])):
 qJ 36 #[St (numS a),St (numS b),.func (.func 101) #[] #[.pointer (some ⟨c,0,none⟩)]] w (.tuple #[St r,.int .i64 0]):=by
 have r1:=λW hW=>zek a ha W hW;have r2:=λW hW=>zek b hb W hW;unfold zb1 at H;generalize numS a=x at r1⊢;generalize numS b=y at r2⊢;generalize zE a.num=s1 at H r1;generalize zE b.num=s2 at H r2;generalize zD a.den=t1 at H r1;generalize zD b.den=t2 at H r2;have R1:=hid r1;have R2:=hid r2;have HH:=hid H;have HW:=hid hw;clear r1 r2 H hw ha hb;go_enter Tryz.func36,Tryz.ntmps36;go_wp21;refine zzM (R1.out _ HW.out) λw1 hB1=>?_;have hB1':=hB1.alloc hB1.size (.cells #[.string ⟨s1.toArray⟩,.string ⟨t1.toArray⟩] 76);go_wp21;refine zzM (R2.out _ (HW.out.below hB1')) λw2 hb2=>?_;have hz1:=hB1.size;have z2:w1.heap.size<w2.heap.size:=by have:=hb2.size;simp at this;omega
 have hB2:=hB1'.trans (hb2.mono hB1'.size);have A2:w2.heap[w1.heap.size]? =some (.cells #[.string ⟨s1.toArray⟩,.string ⟨t1.toArray⟩] 76 (0,0)):=(hb2.block _ (by simp)).trans (zG w1 _);have A20:w2.cell? ⟨w1.heap.size,0,none⟩=some (.string ⟨s1.toArray⟩):=by simp[World.cell?,A2]
 have A21:w2.cell? ⟨w1.heap.size,1,none⟩=some (.string ⟨t1.toArray⟩):=by simp[World.cell?,A2]
 have hB3:=hB2.alloc hB2.size (.cells #[.string ⟨s2.toArray⟩,.string ⟨t2.toArray⟩] 76);clear hb2 A2 hB1 hB1';go_wp21;refine zzM (HH.out _ hB3 (HW.out.below hB3)) λw4 hb4=>?_;have hB4:=hB3.trans (hb4.mono hB3.size);clear hb4;go_wp21;go_ret2;exact⟨rfl,hB4⟩
theorem zgn (g:FuncId) (eg:∀args w,(callFunc g args).run zF w=.ok (.enter g args) w) (a b:Rat) (ha:okQ a) (hb:okQ b) (r:List UInt8) {E:Int} (w:zA) (hw:Wd w)
 (H:∀W:zA,qL w W->Wd W->zC zF g #[zb1 a,zb1 b] W λe w'=>e=.returned (.tuple #[St r,.int .i64 E])/\Below W.heap.size W w'):
 qJ 36 #[St (numS a),St (numS b),.func (.func g) #[] #[]] w (.tuple #[St r,.int .i64 E]):=by
 have EG:=hid eg;clear eg;have r1:=λW hW=>zek a ha W hW;have r2:=λW hW=>zek b hb W hW;unfold zb1 at H;generalize numS a=x at r1⊢;generalize numS b=y at r2⊢;generalize zE a.num=s1 at H r1;generalize zE b.num=s2 at H r2;generalize zD a.den=t1 at H r1;generalize zD b.den=t2 at H r2;have R1:=hid r1;have R2:=hid r2;have HH:=hid H;have HW:=hid hw;clear r1 r2 H hw ha hb;go_enter Tryz.func36,Tryz.ntmps36;go_wp21;refine zzM (R1.out _ HW.out) λw1 hB1=>?_;have hB1':=hB1.alloc hB1.size (.cells #[.string ⟨s1.toArray⟩,.string ⟨t1.toArray⟩] 76);go_wp21;refine zzM (R2.out _ (HW.out.below hB1')) λw2 hb2=>?_;have hz1:=hB1.size;have z2:w1.heap.size<w2.heap.size:=by have:=hb2.size;simp at this;omega
 have hB2:=hB1'.trans (hb2.mono hB1'.size);have A2:w2.heap[w1.heap.size]? =some (.cells #[.string ⟨s1.toArray⟩,.string ⟨t1.toArray⟩] 76 (0,0)):=(hb2.block _ (by simp)).trans (zG w1 _);have A20:w2.cell? ⟨w1.heap.size,0,none⟩=some (.string ⟨s1.toArray⟩):=by simp[World.cell?,A2]
 have A21:w2.cell? ⟨w1.heap.size,1,none⟩=some (.string ⟨t1.toArray⟩):=by simp[World.cell?,A2]
 have hB3:=hB2.alloc hB2.size (.cells #[.string ⟨s2.toArray⟩,.string ⟨t2.toArray⟩] 76);clear hb2 A2 hB1 hB1';have heg:=EG.out;go_wp21;clear heg;refine zzM (HH.out _ hB3 (HW.out.below hB3)) λw4 hb4=>?_;have hB4:=hB3.trans (hb4.mono hB3.size);clear hb4;go_wp21;go_ret2;exact⟨rfl,hB4⟩
theorem zch (g:FuncId) (eg:∀args w,(callFunc g args).run zF w=.ok (.enter g args) w) (a b:Rat) (ha:zbb a) (hb:zbb b) (n d:Int) (r:List UInt8) (w:zA) (hw:Wd w)
 (H:∀W:zA,zC zF g #[.agg #[.int .i64 a.num,I a.den],.agg #[.int .i64 b.num,I b.den]] W λe w'=>e=.returned (.agg #[.int .i64 n,.int .i64 d])/\Below W.heap.size W w')
 (N:qK 100 #[.agg #[.int .i64 n,.int .i64 d]] (St r)):
 qJ 34 #[St (numS a),St (numS b),.func (.func g) #[] #[]] w (.tuple #[St r,.bool true]):=by
 have EG:=hid eg;clear eg;have r1:=λW=>zbm a ha W;have r2:=λW=>zbm b hb W;generalize numS a=x at r1⊢;generalize numS b=y at r2⊢;generalize a.num=n1 at H r1;generalize b.num=n2 at H r2;generalize a.den=d1 at H r1;generalize b.den=d2 at H r2;have R1:=hid r1;have R2:=hid r2;have HH:=hid H;have HN:=hid N;have HW:=hid hw;clear r1 r2 H N hw ha hb;go_enter Tryz.func34,Tryz.ntmps34;go_wp21;refine zzM (R1.out _) λw1 hB1=>?_;have hB1':=hB1.alloc hB1.size (.cells #[.int .i64 n1,.int .i64 (d1:Int)] 69);go_wp21;refine zzM (R2.out _) λw2 hb2=>?_;have hz1:=hB1.size;have z2:w1.heap.size<w2.heap.size:=by have:=hb2.size;simp at this;omega
 have hB2:=hB1'.trans (hb2.mono hB1'.size);have A2:w2.heap[w1.heap.size]? =some (.cells #[.int .i64 n1,.int .i64 (d1:Int)] 69 (0,0)):=(hb2.block _ (by simp)).trans (zG w1 _);have A20:w2.cell? ⟨w1.heap.size,0,none⟩=some (.int .i64 n1):=by simp[World.cell?,A2]
 have A21:w2.cell? ⟨w1.heap.size,1,none⟩=some (.int .i64 (d1:Int)):=by simp[World.cell?,A2]
 have hB3:=hB2.alloc hB2.size (.cells #[.int .i64 n2,.int .i64 (d2:Int)] 69);clear hb2 A2 hB1 hB1';have heg:=EG.out;go_wp21;clear heg;refine zzM (HH.out _) λw4 hb4=>?_;have hB4:=hB3.trans (hb4.mono hB3.size);clear hb4;go_wp21;refine zzM (HN.out _ (HW.out.below hB4)) λw5 hb5=>?_;have hB5:=hB4.trans (hb5.mono hB4.size);clear hb5;go_wp21;go_ret2;exact⟨rfl,hB5⟩
theorem zd1 (g:FuncId) (a b:Rat) (h:¬(zbb a/\zbb b)) (ha:okQ a) (hb:okQ b) (w:zA):
 qJ 34 #[St (numS a),St (numS b),.func (.func g) #[] #[]] w (.tuple #[St [],.bool false]):=by
 by_cases h1:zbb a
 ·have h2:¬zbb b:=λh2=>h ⟨h1,h2⟩
  have r1:=λW=>zbm a h1 W;have r2:=λW=>zb5 b h2 (zO hb.1 (by omega)) (zO hb.2 (by omega)) W;generalize numS a=x at r1⊢;generalize numS b=y at r2⊢;generalize a.num=n1 at r1;generalize a.den=d1 at r1;have R1:=hid r1;have R2:=hid r2;clear r1 r2 h1 h2 h ha hb;go_enter Tryz.func34,Tryz.ntmps34;go_wp21;refine zzM (R1.out _) λw1 hB1=>?_;have hB1':=hB1.alloc hB1.size (.cells #[.int .i64 n1,.int .i64 (d1:Int)] 69);go_wp21;refine zzM (R2.out _) λw2 hb2=>?_;have hB2:=hB1'.trans (hb2.mono hB1'.size);clear hb2 hB1 hB1';go_wp21;go_ret2;exact⟨rfl,hB2.alloc hB2.size _⟩
 ·have r1:=λW=>zb5 a h1 (zO ha.1 (by omega)) (zO ha.2 (by omega)) W
  generalize numS a=x at r1⊢;generalize numS b=y at⊢;have R1:=hid r1;clear r1 h1 h ha hb;go_enter Tryz.func34,Tryz.ntmps34;go_wp21;refine zzM (R1.out _) λw1 hB1=>?_;go_wp21;go_ret2;exact⟨rfl,hB1.alloc hB1.size _⟩
theorem zhd {x:Int} {k:Nat} (hk:0<k) (h:x.natAbs<10^k):digs x<=k:=(zaf x.natAbs k hk).2 h
theorem zil {x k:Nat} (hk:0<k) (h:x<10^k):(zD x).length<=k:=(zaf x k hk).2 h
theorem zd0 {q:Rat} {k:Nat} (hk:0<k) (hk3:k<=300) (h:sz q k):okQ q:=
 ⟨zO (zhd hk h.1) hk3,zO (zil hk h.2) hk3⟩
theorem zcv {q:Rat} (h:zbb q):(-100000000<q.num/\q.num<100000000)/\(-100000000<(q.den:Int)/\(q.den:Int)<100000000):=by
 have h1:=(zaf q.num.natAbs 8 (by omega)).1 h.1;have h2:=(zaf q.den 8 (by omega)).1 h.2;omega
theorem zzc {x y:Int} {k:Nat} (hk:0<k) (hx:digs x<=k) (hy:digs y<=k):digs (x-y)<=k+1:=by
 rw[Int.sub_eq_add_neg];exact zhz hk hx (by unfold digs at*;rw[Int.natAbs_neg];exact hy)
theorem zcd {x:Int} {d i j:Nat} (hi:0<i) (h1:x.natAbs<10^i) (h2:d<10^j):digs (x*d)<=i+j:=
 zhd (by omega) (by rw[ze0];exact zcc h1 h2)
theorem zje (a b:Rat) (i j:Nat) (hi:0<i) (hj:0<j) (hij:i+j<300) (ha:sz a i) (hb:sz b j) (w:zA) (hw:Wd w):
 qJ 10 #[St (numS a),St (numS b)] w (.tuple #[St (numS (a+b)),.int .i64 0]):=by
 have oa:=zd0 hi (by omega) ha;have ob:=zd0 hj (by omega) hb;by_cases h:zbb a/\zbb b
 ·obtain⟨h1,h2⟩:=h
  have e1:=zcv h1;have e2:=zcv h2
  have hq:=λW hW=>zch 43 (enters_of Tryz.func43 (by kernel_rfl) rfl) a b h1 h2 (a.num*b.den+b.num*a.den) (a.den*b.den:Int) (numS (a+b)) W hW
   (λW=>nadd a.num a.den b.num b.den e1.1 e1.2 e2.1 e2.2 W)
   (λW hW=>by
     have p1:=zbs e1.1 e2.2;have p2:=zbs e2.1 e1.2;have p3:=zbs e1.2 e2.2;have:=zd8 (a.num*b.den+b.num*a.den) (a.den*b.den:Int) (Int.mul_ne_zero (by have:=a.den_pos;omega) (by have:=b.den_pos;omega)) (by omega) (by omega) W hW;rw[<-Int.natCast_mul,<-zf0] at this;rw[<-Int.natCast_mul];exact this)
  generalize numS a=x at hq⊢;generalize numS b=y at hq⊢;generalize numS (a+b)=r at hq⊢;have HQ:=hid hq;clear hq e1 e2 oa ob ha hb hi hj hij h1 h2;go_enter Tryz.func10,Tryz.ntmps10;go_wp21;refine zzM (HQ.out _ hw) λw1 hB1=>?_;go_wp21;go_ret2;exact⟨rfl,hB1⟩
 ·have hq:=λW=>zd1 43 a b h oa ob W
  have hbo:=λc W hW H=>zo5 a b oa ob c (numS (a+b)) W hW H;have k1:digs (a.num*b.den)<=300:=zO (zcd hi ha.1 hb.2) (by omega);have k2:digs (b.num*a.den)<=300:=zO (zcd hj hb.1 ha.2) (by omega);have k3:digs (a.num*b.den+b.num*a.den)<=300:=by
   have q1:=zcd hi ha.1 hb.2;have q2:=zcd hj hb.1 ha.2;rw[Nat.add_comm] at q2;have:=zhz (show 0<i+j by omega) q1 q2;omega
  have k4:(zD (a.den*b.den)).length<=300:=zO (zil (by omega) (zcc ha.2 hb.2)) (by omega);have hcb:=λc W hc hW=>zy8 a b oa ob k1 k2 k3 k4 c W hc hW;generalize numS a=x at hq hbo⊢;generalize numS b=y at hq hbo⊢;generalize numS (a+b)=r at hbo hcb⊢;generalize zb1 a=pa at hbo hcb;generalize zb1 b=pb at hbo hcb;have HQ:=hid hq;have HBO:=hid hbo;have HCB:=hid hcb;have HW:=hid hw;clear hq hbo hcb oa ob ha hb hi hj hij h k1 k2 k3 k4 hw;go_enter Tryz.func10,Tryz.ntmps10;go_wp21;refine zzM (HQ.out _) λw1 hB1=>?_;go_wp21;refine(zk4 _ _).mono ?_;rintro e w2 ⟨t,rfl,rfl⟩;go_wp21;have hB2:=hB1.alloc hB1.size (.cells #[.func (.func 44) #[] #[]] t);have hc2:(w1.alloc (.cells #[.func (.func 44) #[] #[]] t)).cell? ⟨w1.heap.size,0,none⟩=some (.func (.func 44) #[] #[]):=by
   have:=zG w1 (.cells #[.func (.func 44) #[] #[]] t (0,0));simp only[World.cell?,this];rfl
  refine zzM (HBO.out _ _ (HW.out.below hB2) (λW hb hW=>HCB.out _ W ((hb.cell (p:=⟨w1.heap.size,0,none⟩) (by simp)).trans hc2) hW)) λw3 hb3=>?_;have hB3:=hB2.trans (hb3.mono hB2.size);clear hc2 hb3;go_wp21;go_ret2;exact⟨rfl,hB3⟩
theorem ztz (a b:Rat) (i j:Nat) (hi:0<i) (hj:0<j) (hij:i+j<300) (ha:sz a i) (hb:sz b j) (w:zA) (hw:Wd w):
 qJ 8 #[St (numS a),St (numS b)] w (.tuple #[St (numS (a-b)),.int .i64 0]):=by
 have oa:=zd0 hi (by omega) ha;have ob:=zd0 hj (by omega) hb;by_cases h:zbb a/\zbb b
 ·obtain⟨h1,h2⟩:=h
  have e1:=zcv h1;have e2:=zcv h2
  have hq:=λW hW=>zch 35 (enters_of Tryz.func35 (by kernel_rfl) rfl) a b h1 h2 (a.num*b.den-b.num*a.den) (a.den*b.den:Int) (numS (a-b)) W hW
   (λW=>nsub a.num a.den b.num b.den e1.1 e1.2 e2.1 e2.2 W)
   (λW hW=>by
     have p1:=zbs e1.1 e2.2;have p2:=zbs e2.1 e1.2;have p3:=zbs e1.2 e2.2;have:=zd8 (a.num*b.den-b.num*a.den) (a.den*b.den:Int) (Int.mul_ne_zero (by have:=a.den_pos;omega) (by have:=b.den_pos;omega)) (by omega) (by omega) W hW;rw[<-Int.natCast_mul,<-znk] at this;rw[<-Int.natCast_mul];exact this)
  generalize numS a=x at hq⊢;generalize numS b=y at hq⊢;generalize numS (a-b)=r at hq⊢;have HQ:=hid hq;clear hq e1 e2 oa ob ha hb hi hj hij h1 h2;go_enter Tryz.func8,Tryz.ntmps8;go_wp21;refine zzM (HQ.out _ hw) λw1 hB1=>?_;go_wp21;go_ret2;exact⟨rfl,hB1⟩
 ·have hq:=λW=>zd1 35 a b h oa ob W
  have hbo:=λc W hW H=>zo5 a b oa ob c (numS (a-b)) W hW H;have k1:digs (a.num*b.den)<=300:=zO (zcd hi ha.1 hb.2) (by omega);have k2:digs (b.num*a.den)<=300:=zO (zcd hj hb.1 ha.2) (by omega);have k3:digs (a.num*b.den-b.num*a.den)<=300:=by
   have q1:=zcd hi ha.1 hb.2;have q2:=zcd hj hb.1 ha.2;rw[Nat.add_comm] at q2;have:=zzc (show 0<i+j by omega) q1 q2;omega
  have k4:(zD (a.den*b.den)).length<=300:=zO (zil (by omega) (zcc ha.2 hb.2)) (by omega);have hcb:=λc W hc hW=>zy9 a b oa ob k1 k2 k3 k4 c W hc hW;generalize numS a=x at hq hbo⊢;generalize numS b=y at hq hbo⊢;generalize numS (a-b)=r at hbo hcb⊢;generalize zb1 a=pa at hbo hcb;generalize zb1 b=pb at hbo hcb;have HQ:=hid hq;have HBO:=hid hbo;have HCB:=hid hcb;have HW:=hid hw;clear hq hbo hcb oa ob ha hb hi hj hij h k1 k2 k3 k4 hw;go_enter Tryz.func8,Tryz.ntmps8;go_wp21;refine zzM (HQ.out _) λw1 hB1=>?_;go_wp21;refine(zk4 _ _).mono ?_;rintro e w2 ⟨t,rfl,rfl⟩;go_wp21;have hB2:=hB1.alloc hB1.size (.cells #[.func (.func 38) #[] #[]] t);have hc2:(w1.alloc (.cells #[.func (.func 38) #[] #[]] t)).cell? ⟨w1.heap.size,0,none⟩=some (.func (.func 38) #[] #[]):=by
   have:=zG w1 (.cells #[.func (.func 38) #[] #[]] t (0,0));simp only[World.cell?,this];rfl
  refine zzM (HBO.out _ _ (HW.out.below hB2) (λW hb hW=>HCB.out _ W ((hb.cell (p:=⟨w1.heap.size,0,none⟩) (by simp)).trans hc2) hW)) λw3 hb3=>?_;have hB3:=hB2.trans (hb3.mono hB2.size);clear hc2 hb3;go_wp21;go_ret2;exact⟨rfl,hB3⟩
theorem zjf (a b:Rat) (i j:Nat) (hi:0<i) (hj:0<j) (hij:i+j<=300) (ha:sz a i) (hb:sz b j) (w:zA) (hw:Wd w):
 qJ 9 #[St (numS a),St (numS b)] w (.tuple #[St (numS (a*b)),.int .i64 0]):=by
 have oa:=zd0 hi (by omega) ha;have ob:=zd0 hj (by omega) hb;by_cases h:zbb a/\zbb b
 ·obtain⟨h1,h2⟩:=h
  have e1:=zcv h1;have e2:=zcv h2
  have hq:=λW hW=>zch 39 (enters_of Tryz.func39 (by kernel_rfl) rfl) a b h1 h2 (a.num*b.num) (a.den*b.den:Int) (numS (a*b)) W hW
   (λW=>nmul a.num a.den b.num b.den e1.1 e1.2 e2.1 e2.2 W)
   (λW hW=>by
     have p1:=zbs e1.1 e2.1;have p3:=zbs e1.2 e2.2;have:=zd8 (a.num*b.num) (a.den*b.den:Int) (Int.mul_ne_zero (by have:=a.den_pos;omega) (by have:=b.den_pos;omega)) (by omega) (by omega) W hW;rw[<-Int.natCast_mul,<-zf1] at this;rw[<-Int.natCast_mul];exact this)
  generalize numS a=x at hq⊢;generalize numS b=y at hq⊢;generalize numS (a*b)=r at hq⊢;have HQ:=hid hq;clear hq e1 e2 oa ob ha hb hi hj hij h1 h2;go_enter Tryz.func9,Tryz.ntmps9;go_wp21;refine zzM (HQ.out _ hw) λw1 hB1=>?_;go_wp21;go_ret2;exact⟨rfl,hB1⟩
 ·have hq:=λW=>zd1 39 a b h oa ob W
  have k1:digs (a.num*b.num)<=300:=zO (zhd (by omega) (by rw[Int.natAbs_mul];exact zcc ha.1 hb.1)) hij;have k4:(zD (a.den*b.den)).length<=300:=zO (zil (by omega) (zcc ha.2 hb.2)) hij;have hbo:=λW hW=>zgn 40 (enters_of Tryz.func40 (by kernel_rfl) rfl) a b oa ob (numS (a*b)) W hW (λW' _ hW'=>zt7 a b oa ob k1 k4 W' hW');generalize numS a=x at hq hbo⊢;generalize numS b=y at hq hbo⊢;generalize numS (a*b)=r at hbo⊢;have HQ:=hid hq;have HBO:=hid hbo;have HW:=hid hw;clear hq hbo oa ob ha hb hi hj hij h k1 k4 hw;go_enter Tryz.func9,Tryz.ntmps9;go_wp21;refine zzM (HQ.out _) λw1 hB1=>?_;go_wp21;refine zzM (HBO.out _ (HW.out.below hB1)) λw3 hb3=>?_;have hB3:=hB1.trans (hb3.mono hB1.size);clear hb3;go_wp21;go_ret2;exact⟨rfl,hB3⟩
theorem zoj (a b:Rat) (hb0:b≠0) (i j:Nat) (hi:0<i) (hj:0<j) (hij:i+j<=300) (ha:sz a i) (hb:sz b j) (w:zA) (hw:Wd w):
 qJ 93 #[St (numS a),St (numS b)] w (.tuple #[St (numS (a/b)),.int .i64 0]):=by
 have oa:=zd0 hi (by omega) ha;have ob:=zd0 hj (by omega) hb;obtain⟨y,hy⟩:=zzX (⟨(numS b).toArray⟩:ByteArray);have hyz:(y.toList==[48])=false:=by
  rw[beq_eq_false_iff_ne,zfo hy];intro e;exact hb0 ((zpy b).1 e)
 by_cases h:zbb a/\zbb b
 ·obtain⟨h1,h2⟩:=h
  have e1:=zcv h1;have e2:=zcv h2;have hnz:b.num≠0:=λh=>hb0 (Rat.num_eq_zero.1 h)
  have hq:=λW hW=>zch 175 (enters_of Tryz.func175 (by kernel_rfl) rfl) a b h1 h2 (a.num*b.den) (a.den*b.num:Int) (numS (a/b)) W hW
   (λW=>ndiv a.num a.den b.num b.den e1.1 e1.2 e2.1 e2.2 W)
   (λW hW=>by
     have p1:=zbs e1.1 e2.2;have p3:=zbs e1.2 e2.1;have:=zd8 (a.num*b.den) (a.den*b.num:Int) (Int.mul_ne_zero (by have:=a.den_pos;omega) hnz) (by omega) (by omega) W hW;rw[<-zjx a b hb0] at this;exact this)
  rw[zgf hy] at hq⊢;generalize numS a=x at hq⊢;generalize numS (a/b)=r at hq⊢;have HQ:=hid hq;clear hq e1 e2 oa ob ha hb hi hj hij h1 h2 hy hnz hb0;go_enter Tryz.func93,Tryz.ntmps93;go_wp21;refine zzM (HQ.out _ hw) λw1 hB1=>?_;go_wp21;go_ret2;exact⟨rfl,hB1⟩
 ·have hq:=λW=>zd1 175 a b h oa ob W
  have k1:digs (a.num*b.den)<=300:=zO (zcd hi ha.1 hb.2) hij;have k2:digs (b.num*a.den)<=300:=zO (zcd hj hb.1 ha.2) (by omega);have hbo:=λW hW=>zgn 176 (enters_of Tryz.func176 (by kernel_rfl) rfl) a b oa ob (numS (a/b)) W hW (λW' _ hW'=>z1o a b hb0 oa ob k1 k2 W' hW');rw[zgf hy] at hq hbo⊢;generalize numS a=x at hq hbo⊢;generalize numS (a/b)=r at hbo⊢;have HQ:=hid hq;have HBO:=hid hbo;have HW:=hid hw;clear hq hbo oa ob ha hb hi hj hij h k1 k2 hw hy hb0;go_enter Tryz.func93,Tryz.ntmps93;go_wp21;refine zzM (HQ.out _) λw1 hB1=>?_;go_wp21;refine zzM (HBO.out _ (HW.out.below hB1)) λw3 hb3=>?_;have hB3:=hB1.trans (hb3.mono hB1.size);clear hb3;go_wp21;go_ret2;exact⟨rfl,hB3⟩
end Go.Proofs.YtnjiiafnneillaaGreatDoor
namespace Go.Proofs.YtnjiiafnneillaaGreatDoor.Geo
structure Pt where
 x:Rat
 y:Rat
 deriving DecidableEq
def cmpR (a b:Rat):Int:=if a<b then-1 else if a=b then 0 else 1
theorem zaw (a b:Rat):(a<b/\cmpR a b= -1)\/(a=b/\cmpR a b=0)\/(b<a/\cmpR a b=1):=by
 unfold cmpR;by_cases h:a<b
 ·exact .inl ⟨h,by rw[if_pos h]⟩
 ·by_cases e:a=b
  ·exact .inr (.inl ⟨e,by rw[if_neg h,if_pos e]⟩)
  ·exact .inr (.inr ⟨by grind,by rw[if_neg h,if_neg e]⟩)
theorem zfr (a b:Rat):cmpR b a= -cmpR a b:=by
 have:=zaw a b;have:=zaw b a;grind
theorem zf7 (a:Rat):cmpR a a=0:=by have:=zaw a a;grind
theorem zhi {a b:Rat}:cmpR a b=0↔a=b:=by have:=zaw a b;grind
theorem zm1 (a b c d:Rat) (h:a-b=c-d):cmpR a b=cmpR c d:=by
 have:=zaw a b;have:=zaw c d;grind
def ordP (p q:Pt):Int:=if cmpR p.x q.x≠0 then cmpR p.x q.x else cmpR p.y q.y
theorem zas (p q:Pt):((p.x<q.x\/p.x=q.x/\p.y<q.y)/\ordP p q= -1)\/(p=q/\ordP p q=0)\/((q.x<p.x\/p.x=q.x/\q.y<p.y)/\ordP p q=1):=by
 unfold ordP;obtain⟨a,b⟩:=p;obtain⟨c,d⟩:=q;simp only[Pt.mk.injEq];have:=zaw a c;have:=zaw b d;grind
def turn (a b c:Pt):Int:=cmpR ((b.x-a.x)*(c.y-a.y)) ((b.y-a.y)*(c.x-a.x))
theorem ze2 (a b c:Pt):turn b a c= -turn a b c:=by
 unfold turn;rw[<-zfr];exact zm1 _ _ _ _ (by grind)
theorem zla (a b c:Pt):turn b c a=turn a b c:=by
 unfold turn;exact zm1 _ _ _ _ (by grind)
theorem zw7 (a b c:Pt):turn a b c= -1\/turn a b c=0\/turn a b c=1:=by
 have:=zaw ((b.x-a.x)*(c.y-a.y)) ((b.y-a.y)*(c.x-a.x));unfold turn;grind
theorem ze3 (a b:Pt):turn a b a=0:=by unfold turn;rw[zhi];grind
theorem zec (a b:Pt):turn a b b=0:=by unfold turn;rw[zhi];grind
theorem zzi (a b:Pt):turn a a b=0:=by unfold turn;rw[zhi];grind
def low (a b:Pt):Pt:=if ordP a b>0 then b else a
def high (a b:Pt):Pt:=if ordP a b>0 then a else b
def meet (a b c d:Pt):Int:=
 if turn a b c≠0\/turn a b d≠0\/turn c d a≠0\/turn c d b≠0 then
  if turn a b c*turn a b d<=0/\turn c d a*turn c d b<=0 then 1 else 0
 else
  1-ordP (if ordP (low c d) (low a b)>0 then low c d else low a b) (if ordP (high c d) (high a b)<0 then high c d else high a b)
theorem ye2 (p q:Pt):(if ordP p q>0 then p else q)=(if ordP q p>0 then q else p):=by have:=zas p q;have:=zas q p;grind
theorem ye3 (p q:Pt):(if ordP p q<0 then p else q)=(if ordP q p<0 then q else p):=by have:=zas p q;have:=zas q p;grind
theorem zzk (a b c d:Pt):meet c d a b=meet a b c d:=by
 unfold meet;rw[ye2 (low c d),ye3 (high c d)];have h3:(turn c d a≠0\/turn c d b≠0\/turn a b c≠0\/turn a b d≠0)↔(turn a b c≠0\/turn a b d≠0\/turn c d a≠0\/turn c d b≠0):=by omega
 have h4:(turn c d a*turn c d b<=0/\turn a b c*turn a b d<=0)↔(turn a b c*turn a b d<=0/\turn c d a*turn c d b<=0):=And.comm;simp only[h3,h4]
theorem zhm (a:Pt):ordP a a=0:=by have:=zas a a;grind
end Go.Proofs.YtnjiiafnneillaaGreatDoor.Geo
namespace Go.Proofs.YtnjiiafnneillaaGreatDoor
open Go.RowKit Go.Shelf Lib Str Limb Geo
attribute [local go_sem] Oper.semAt_some
theorem z2v (x y s1 s2 t1 t2 u v:List UInt8) (z:Int) (NA:Hid (∀W:zA,qJ 66 #[St x] W (.tuple #[.agg #[.int .i64 0,.int .i64 0],.bool false])))
 (RA:Hid (qK 68 #[St x] (.tuple #[.agg #[St s1,St t1],.int .i64 0])))
 (RB:Hid (qK 68 #[St y] (.tuple #[.agg #[St s2,St t2],.int .i64 0])))
 (CR:Hid (qK 69 #[.agg #[St s1,St t1],.agg #[St s2,St t2]] (.tuple #[St u,St v,.int .i64 0])))
 (CM:Hid (∀W:zA,qJ 70 #[St u,St v] W (.tuple #[.int .i64 z,.int .i64 0])))
 (w:zA) (HW:Hid (Wd w)):
 qJ 18 #[St x,St y] w (.tuple #[.int .i64 z,.int .i64 0]):=by
 go_enter Tryz.func18,Tryz.ntmps18;go_wp21;refine zzM (NA.out _) λw1 hB1=>?_;have hX:=hB1.alloc hB1.size (.cells #[.int .i64 0,.int .i64 0] 69);clear hB1;go_wp21;refine zzM (RA.out _ (HW.out.below hX)) λw5 hb5=>?_;have hB5:=hX.trans (hb5.mono hX.size);have hB5':=hB5.alloc hB5.size (.cells #[.string ⟨s1.toArray⟩,.string ⟨t1.toArray⟩] 76);clear hb5;go_wp21;refine zzM (RB.out _ (HW.out.below hB5')) λw6 hb6=>?_;have hz5:=hB5.size;have z6:w5.heap.size<w6.heap.size:=by have:=hb6.size;simp at this;omega
 have hB6:=hB5'.trans (hb6.mono hB5'.size);have A2:w6.heap[w5.heap.size]? =some (.cells #[.string ⟨s1.toArray⟩,.string ⟨t1.toArray⟩] 76 (0,0)):=(hb6.block _ (by simp)).trans (zG w5 _);have A20:w6.cell? ⟨w5.heap.size,0,none⟩=some (.string ⟨s1.toArray⟩):=by simp[World.cell?,A2]
 have A21:w6.cell? ⟨w5.heap.size,1,none⟩=some (.string ⟨t1.toArray⟩):=by simp[World.cell?,A2]
 have hB7:=hB6.alloc hB6.size (.cells #[.string ⟨s2.toArray⟩,.string ⟨t2.toArray⟩] 76);clear hb6 A2;go_wp21;refine zzM (CR.out _ (HW.out.below hB7)) λw8 hb8=>?_;have hB8:=hB7.trans (hb8.mono hB7.size);clear hb8;go_wp21;refine zzM (CM.out _) λw9 hb9=>?_;have hB9:=hB8.trans (hb9.mono hB8.size);clear hb9;go_wp21;go_ret2;exact⟨rfl,hB9⟩
theorem z2w (x y s1 s2 t1 t2 u v:List UInt8) (z n1 d1:Int) (NA:Hid (∀W:zA,qJ 66 #[St x] W (.tuple #[.agg #[.int .i64 n1,.int .i64 d1],.bool true]))) (NB:Hid (∀W:zA,qJ 66 #[St y] W (.tuple #[.agg #[.int .i64 0,.int .i64 0],.bool false])))
 (RA:Hid (qK 68 #[St x] (.tuple #[.agg #[St s1,St t1],.int .i64 0])))
 (RB:Hid (qK 68 #[St y] (.tuple #[.agg #[St s2,St t2],.int .i64 0])))
 (CR:Hid (qK 69 #[.agg #[St s1,St t1],.agg #[St s2,St t2]] (.tuple #[St u,St v,.int .i64 0])))
 (CM:Hid (∀W:zA,qJ 70 #[St u,St v] W (.tuple #[.int .i64 z,.int .i64 0])))
 (w:zA) (HW:Hid (Wd w)):
 qJ 18 #[St x,St y] w (.tuple #[.int .i64 z,.int .i64 0]):=by
 go_enter Tryz.func18,Tryz.ntmps18;go_wp21;refine zzM (NA.out _) λw1 hB1=>?_;have hB1':=hB1.alloc hB1.size (.cells #[.int .i64 n1,.int .i64 d1] 69);clear hB1;go_wp21;refine zzM (NB.out _) λw2 hb2=>?_;have hB2:=hB1'.trans (hb2.mono hB1'.size);have hX:=hB2.alloc hB2.size (.cells #[.int .i64 0,.int .i64 0] 69);clear hb2 hB1' hB2;go_wp21;refine zzM (RA.out _ (HW.out.below hX)) λw5 hb5=>?_;have hB5:=hX.trans (hb5.mono hX.size);have hB5':=hB5.alloc hB5.size (.cells #[.string ⟨s1.toArray⟩,.string ⟨t1.toArray⟩] 76);clear hb5;go_wp21;refine zzM (RB.out _ (HW.out.below hB5')) λw6 hb6=>?_;have hz5:=hB5.size;have z6:w5.heap.size<w6.heap.size:=by have:=hb6.size;simp at this;omega
 have hB6:=hB5'.trans (hb6.mono hB5'.size);have A2:w6.heap[w5.heap.size]? =some (.cells #[.string ⟨s1.toArray⟩,.string ⟨t1.toArray⟩] 76 (0,0)):=(hb6.block _ (by simp)).trans (zG w5 _);have A20:w6.cell? ⟨w5.heap.size,0,none⟩=some (.string ⟨s1.toArray⟩):=by simp[World.cell?,A2]
 have A21:w6.cell? ⟨w5.heap.size,1,none⟩=some (.string ⟨t1.toArray⟩):=by simp[World.cell?,A2]
 have hB7:=hB6.alloc hB6.size (.cells #[.string ⟨s2.toArray⟩,.string ⟨t2.toArray⟩] 76);clear hb6 A2;go_wp21;refine zzM (CR.out _ (HW.out.below hB7)) λw8 hb8=>?_;have hB8:=hB7.trans (hb8.mono hB7.size);clear hb8;go_wp21;refine zzM (CM.out _) λw9 hb9=>?_;have hB9:=hB8.trans (hb9.mono hB8.size);clear hb9;go_wp21;go_ret2;exact⟨rfl,hB9⟩
theorem zim (a b:Rat):cmpZ (a.num*b.den) (b.num*a.den)=cmpR a b:=by
 have h1:=Rat.lt_iff a b;have h2:=Rat.lt_iff b a;unfold cmpZ;rcases zaw a b with⟨h,e⟩|⟨h,e⟩|⟨h,e⟩
 ·rw[e,if_pos (h1.1 h)]
 ·subst h;rw[e,if_neg (by omega),if_neg (by omega)]
 ·rw[e,if_neg (by have:=h2.1 h;omega),if_pos (h2.1 h)]
theorem z2x (x y:List UInt8) (n1 d1 n2 d2 p q z:Int) (NA:Hid (∀W:zA,qJ 66 #[St x] W (.tuple #[.agg #[.int .i64 n1,.int .i64 d1],.bool true])))
 (NB:Hid (∀W:zA,qJ 66 #[St y] W (.tuple #[.agg #[.int .i64 n2,.int .i64 d2],.bool true])))
 (v1:IntKind.i64.wrap (n1*d2)=p) (v2:IntKind.i64.wrap (n2*d1)=q)
 (CM:Hid (∀W:zA,zC zF 67 #[.int .i64 p,.int .i64 q] W λe w'=>e=.returned (.int .i64 z)/\w'=W)) (w:zA):
 qJ 18 #[St x,St y] w (.tuple #[.int .i64 z,.int .i64 0]):=by
 go_enter Tryz.func18,Tryz.ntmps18;go_wp21;refine zzM (NA.out _) λw1 hB1=>?_;have hB1':=hB1.alloc hB1.size (.cells #[.int .i64 n1,.int .i64 d1] 69);go_wp21;refine zzM (NB.out _) λw2 hb2=>?_;have hz1:=hB1.size;have z2:w1.heap.size<w2.heap.size:=by have:=hb2.size;simp at this;omega
 have hB2:=hB1'.trans (hb2.mono hB1'.size);have A2:w2.heap[w1.heap.size]? =some (.cells #[.int .i64 n1,.int .i64 d1] 69 (0,0)):=(hb2.block _ (by simp)).trans (zG w1 _);have A20:w2.cell? ⟨w1.heap.size,0,none⟩=some (.int .i64 n1):=by simp[World.cell?,A2]
 have A21:w2.cell? ⟨w1.heap.size,1,none⟩=some (.int .i64 d1):=by simp[World.cell?,A2]
 have hX:=hB2.alloc hB2.size (.cells #[.int .i64 n2,.int .i64 d2] 69);clear hb2 A2 hB1 hB1' hB2;go_wp21;refine(CM.out _).mono ?_;rintro e w3 ⟨rfl,rfl⟩;go_wp21;go_ret2;exact⟨rfl,hX⟩
theorem zgq (a b:Rat) (i j:Nat) (hi:0<i) (hj:0<j) (hij:i+j<=300) (ha:sz a i) (hb:sz b j) (w:zA) (hw:Wd w):
 qJ 18 #[St (numS a),St (numS b)] w (.tuple #[.int .i64 (cmpR a b),.int .i64 0]):=by
 have oa:=zd0 hi (by omega) ha;have ob:=zd0 hj (by omega) hb;have k1:digs (a.num*b.den)<=300:=zO (zcd hi ha.1 hb.2) hij;have k2:digs (b.num*a.den)<=300:=zO (zcd hj hb.1 ha.2) (by omega);have RA:=hid λW hW=>zek a oa W hW;have RB:=hid λW hW=>zek b ob W hW;have cr:=λW hW=>zhc a.num b.num a.den b.den oa.1 ob.1 oa.2 ob.2 k1 W hW;rw[zcf k2,zcg k2] at cr;have cm:=λW=>zsx (a.num*b.den) (b.num*a.den) k1 k2 W;rw[zim] at cm;by_cases h1:zbb a
 ·by_cases h2:zbb b
  ·have e1:=zcv h1
   have e2:=zcv h2;have p1:=zbs e1.1 e2.2;have p2:=zbs e2.1 e1.2
   exact z2x _ _ a.num a.den b.num b.den _ _ _ (hid λW=>zbm a h1 W) (hid λW=>zbm b h2 W) (zI _ (by omega)) (zI _ (by omega))
    (hid λW=>by rw[<-zim];exact Tryz.cmp_Compare_int _ _ W) w
  ·exact z2w _ _ _ _ _ _ _ _ _ a.num a.den (hid λW=>zbm a h1 W) (hid λW=>zb5 b h2 (zO ob.1 (by omega)) (zO ob.2 (by omega)) W) RA RB (hid cr) (hid cm) w (hid hw)
 ·exact z2v _ _ _ _ _ _ _ _ _ (hid λW=>zb5 a h1 (zO oa.1 (by omega)) (zO oa.2 (by omega)) W) RA RB (hid cr) (hid cm) w (hid hw)
theorem zh3 (a b:Rat) (i j:Nat) (hi:0<i) (hj:0<j) (hij:i+j<=300) (ha:sz a i) (hb:sz b j) (w:zA) (hw:Wd w):
 qJ 33 #[St (numS a),St (numS b)] w (St (numS (a*b))):=by
 have hc:=zjf a b i j hi hj hij ha hb w hw;generalize numS (a*b)=r at hc⊢;generalize numS a=x at hc⊢;generalize numS b=y at hc⊢;have HC:=hid hc;clear hc hi hj hij ha hb;go_enter Tryz.func33,Tryz.ntmps33;go_wp21;refine zzM HC.out λw1 hB=>?_;go_wp21;go_ret;exact⟨rfl,hB⟩
theorem zgk (a b:Rat) (i j:Nat) (hi:0<i) (hj:0<j) (hij:i+j<300) (ha:sz a i) (hb:sz b j) (w:zA) (hw:Wd w):
 qJ 32 #[St (numS a),St (numS b)] w (St (numS (a-b))):=by
 have hc:=ztz a b i j hi hj hij ha hb w hw;generalize numS (a-b)=r at hc⊢;generalize numS a=x at hc⊢;generalize numS b=y at hc⊢;have HC:=hid hc;clear hc hi hj hij ha hb;go_enter Tryz.func32,Tryz.ntmps32;go_wp21;refine zzM HC.out λw1 hB=>?_;go_wp21;go_ret;exact⟨rfl,hB⟩
theorem zme (a b:Rat) (i j:Nat) (hi:0<i) (hj:0<j) (hij:i+j<=300) (ha:sz a i) (hb:sz b j) (w:zA) (hw:Wd w):
 qJ 96 #[St (numS a),St (numS b)] w (.int .i64 (cmpR a b)):=by
 have hc:=zgq a b i j hi hj hij ha hb w hw;generalize cmpR a b=r at hc⊢;generalize numS a=x at hc⊢;generalize numS b=y at hc⊢;have HC:=hid hc;clear hc hi hj hij ha hb;go_enter Tryz.func96,Tryz.ntmps96;go_wp21;refine zzM HC.out λw1 hB=>?_;go_wp21;go_ret;exact⟨rfl,hB⟩
theorem zk5 (q:Rat) (h:okQ q) (w:zA) (hw:Wd w):
 qJ 116 #[St (numS q)] w (.tuple #[St (zE q.num),St (zD q.den),.int .i64 0]):=by
 have hc:=zek q h w hw;generalize numS q=s at hc⊢;generalize zE q.num=u at hc⊢;generalize zD q.den=v at hc⊢;have HC:=hid hc;clear hc h;go_enter Tryz.func116,Tryz.ntmps116;go_wp21;refine zzM HC.out λw1 hB=>?_;go_wp21
 (refine wp_region_quiet_lit (by kernel_rfl) (by kernel_rfl) (WQ.out ?_);(repeat(first|(apply WQ.read (by rfl);(focus(rintro W ⟨n,rfl⟩;go_simp;try with_reducible rfl));try simp only[zzQ])|(apply WQ.skip (by rfl);try simp only[zzQ])));refine WQ.nil ?_;rintro _ ⟨nq,rfl⟩)
 go_wp21;go_ret3;exact⟨rfl,zao (hB.alloc hB.size _) nq⟩
def ptV (p:Pt):Value:=.agg #[St (numS p.x),St (numS p.y)]
def szP (p:Pt) (k:Nat):Prop:=sz p.x k/\sz p.y k
theorem zw9 (x1 y1 x2 y2:List UInt8) (m n:Int) (w:zA) (hw:Wd w)
 (c1:qK 96 #[St x1,St x2] (.int .i64 m))
 (c2:qK 96 #[St y1,St y2] (.int .i64 n)):
 qJ 180 #[.agg #[St x1,St y1],.agg #[St x2,St y2]] w (.int .i64 (if m≠0 then m else n)):=by
 have C1:=hid c1;have C2:=hid c2;have HW:=hid hw;clear c1 c2 hw;obtain⟨W3,hW3⟩:=zzX ((w.alloc (.cells #[St x1,St y1] 32)).alloc (.cells #[St x2,St y2] 32));have hB0:qL w W3:=by rw[hW3];exact((zM _ w).alloc (zN _) _).alloc (by simp) _
 have z0:W3.heap.size=w.heap.size+1+1:=by rw[hW3];simp
 have A3:W3.heap[w.heap.size]? =some (.cells #[St x1,St y1] 32 (0,0)):=by
  rw[hW3];exact(Below.heap_alloc _ _ _ (by simp only[zH];omega)).trans (zG w _)
 have B3:W3.heap[w.heap.size+1]? =some (.cells #[St x2,St y2] 32 (0,0)):=by
  have:=zG (w.alloc (.cells #[St x1,St y1] 32)) (.cells #[St x2,St y2] 32 (0,0));rw[zH] at this;rw[hW3];exact this
 have HW3:=hid hW3;clear hW3;by_cases hm:m=0
 ·have hm':(m !=0)=false:=by simp[hm]
  rw[if_neg (by omega)];clear hm;go_enter Tryz.func180,Tryz.ntmps180;go_wp21;rw[<-HW3.out];refine zzM (C1.out _ (HW.out.below hB0)) λw4 hb4=>?_;have hB4:=hB0.trans (hb4.mono hB0.size);have A4:w4.heap[w.heap.size]? =some (.cells #[St x1,St y1] 32 (0,0)):=(hb4.block _ (by omega)).trans A3;have B4:w4.heap[w.heap.size+1]? =some (.cells #[St x2,St y2] 32 (0,0)):=(hb4.block _ (by omega)).trans B3;have A41:w4.cell? ⟨w.heap.size,1,none⟩=some (St y1):=by simp[World.cell?,A4]
  have B41:w4.cell? ⟨w.heap.size+1,1,none⟩=some (St y2):=by simp[World.cell?,B4]
  clear hb4 A3 B3 z0 A4 B4;go_wp21;refine zzM (C2.out _ (HW.out.below hB4)) λw5 hb5=>?_;have hB5:=hB4.trans (hb5.mono hB4.size);clear hb5;go_wp21;go_ret;exact⟨rfl,hB5⟩
 ·have hm':(m !=0)=true:=by simp[hm]
  rw[if_pos hm];clear hm;go_enter Tryz.func180,Tryz.ntmps180;go_wp21;rw[<-HW3.out];refine zzM (C1.out _ (HW.out.below hB0)) λw4 hb4=>?_;have hB4:=hB0.trans (hb4.mono hB0.size);clear hb4 A3 B3 z0;go_wp21;go_ret;exact⟨rfl,hB4⟩
theorem zm2 (p q:Pt) (i j:Nat) (hi:0<i) (hj:0<j) (hij:i+j<=300) (hp:szP p i) (hq:szP q j) (w:zA) (hw:Wd w):
 qJ 180 #[ptV p,ptV q] w (.int .i64 (ordP p q)):=
 zw9 _ _ _ _ _ _ w hw (λW hW=>zme p.x q.x i j hi hj hij hp.1 hq.1 W hW) (λW hW=>zme p.y q.y i j hi hj hij hp.2 hq.2 W hW)
structure TurnS (w:zA) (x1 y1 x2 y2 x3 y3:List UInt8) (W:zA):Prop where
 bel:qL w W
 lt:w.heap.size+1+1<W.heap.size
 ha:W.heap[w.heap.size]? =some (.cells #[St x1,St y1] 32 (0,0))
 hb:W.heap[w.heap.size+1]? =some (.cells #[St x2,St y2] 32 (0,0))
 hc:W.heap[w.heap.size+1+1]? =some (.cells #[St x3,St y3] 32 (0,0))
theorem TurnS.a0 {w:zA} {x1 y1 x2 y2 x3 y3:List UInt8} {W:zA} (h:TurnS w x1 y1 x2 y2 x3 y3 W):W.cell? ⟨w.heap.size,0,none⟩=some (St x1):=by have:=h.ha;simp[World.cell?,this]
theorem TurnS.a1 {w:zA} {x1 y1 x2 y2 x3 y3:List UInt8} {W:zA} (h:TurnS w x1 y1 x2 y2 x3 y3 W):W.cell? ⟨w.heap.size,1,none⟩=some (St y1):=by have:=h.ha;simp[World.cell?,this]
theorem TurnS.b0 {w:zA} {x1 y1 x2 y2 x3 y3:List UInt8} {W:zA} (h:TurnS w x1 y1 x2 y2 x3 y3 W):W.cell? ⟨w.heap.size+1,0,none⟩=some (St x2):=by have:=h.hb;simp[World.cell?,this]
theorem TurnS.b1 {w:zA} {x1 y1 x2 y2 x3 y3:List UInt8} {W:zA} (h:TurnS w x1 y1 x2 y2 x3 y3 W):W.cell? ⟨w.heap.size+1,1,none⟩=some (St y2):=by have:=h.hb;simp[World.cell?,this]
theorem TurnS.c0 {w:zA} {x1 y1 x2 y2 x3 y3:List UInt8} {W:zA} (h:TurnS w x1 y1 x2 y2 x3 y3 W):W.cell? ⟨w.heap.size+1+1,0,none⟩=some (St x3):=by have:=h.hc;simp[World.cell?,this]
theorem TurnS.c1 {w:zA} {x1 y1 x2 y2 x3 y3:List UInt8} {W:zA} (h:TurnS w x1 y1 x2 y2 x3 y3 W):W.cell? ⟨w.heap.size+1+1,1,none⟩=some (St y3):=by have:=h.hc;simp[World.cell?,this]
theorem TurnS.next {w:zA} {x1 y1 x2 y2 x3 y3:List UInt8} {W W':zA} (h:TurnS w x1 y1 x2 y2 x3 y3 W) (hb:qL W W'):TurnS w x1 y1 x2 y2 x3 y3 W':=
 ⟨h.bel.trans (hb.mono h.bel.size),Nat.lt_of_lt_of_le h.lt hb.size,(hb.block _ (by have:=h.lt;omega)).trans h.ha,(hb.block _ (by have:=h.lt;omega)).trans h.hb,(hb.block _ h.lt).trans h.hc⟩
theorem zzl (x1 y1 x2 y2 x3 y3 u1 u2 v1 v2 u v:List UInt8) (n:Int)
 (S1:Hid (qK 32 #[St x2,St x1] (St u1)))
 (S2:Hid (qK 32 #[St y3,St y1] (St u2)))
 (M1:Hid (qK 33 #[St u1,St u2] (St u)))
 (S3:Hid (qK 32 #[St y2,St y1] (St v1)))
 (S4:Hid (qK 32 #[St x3,St x1] (St v2)))
 (M2:Hid (qK 33 #[St v1,St v2] (St v)))
 (CM:Hid (qK 96 #[St u,St v] (.int .i64 n)))
 (w:zA) (HW:Hid (Wd w)):
 qJ 97 #[.agg #[St x1,St y1],.agg #[St x2,St y2],.agg #[St x3,St y3]] w (.int .i64 n):=by
 have hinit:TurnS w x1 y1 x2 y2 x3 y3 (((w.alloc (.cells #[St x1,St y1] 32)).alloc (.cells #[St x2,St y2] 32)).alloc (.cells #[St x3,St y3] 32)):=by
  have e1:=zG w (.cells #[St x1,St y1] 32 (0,0));have e2:=zG (w.alloc (.cells #[St x1,St y1] 32)) (.cells #[St x2,St y2] 32 (0,0));have e3:=zG ((w.alloc (.cells #[St x1,St y1] 32)).alloc (.cells #[St x2,St y2] 32)) (.cells #[St x3,St y3] 32 (0,0));simp only[zH] at e2 e3;refine⟨(((zM _ w).alloc (zN _) _).alloc (by simp) _).alloc (by simp;omega) _,by simp,?_,?_,e3⟩
  ·exact(Below.heap_alloc _ _ _ (by simp only[zH];omega)).trans ((Below.heap_alloc _ _ _ (by simp only[zH];omega)).trans e1)
  ·exact(Below.heap_alloc _ _ _ (by simp only[zH];omega)).trans e2
 have HI:=hid hinit;clear hinit;go_enter Tryz.func97,Tryz.ntmps97;go_wp21;refine zbl (λ_ W=>TurnS w x1 y1 x2 y2 x3 y3 W) (by kernel_rfl) (by kernel_rfl) (by have h:=HI.out;exact⟨h.bel.drew,h.lt,h.ha,h.hb,h.hc⟩) ?_;refine qR (.pointer (some ⟨w.heap.size+1,0,none⟩)) ?_;refine qR (St x2) ?_ (hy:=λf W' hf h=>by have h0:=h.b0;go_simp);refine qR (.pointer (some ⟨w.heap.size,0,none⟩)) ?_;simp only[zzQ];refine qR (St x1) ?_ (hy:=λf W' hf h=>by have h0:=h.a0;go_simp);simp only[zzQ]
 refine zar (St u1) (by rfl) (λf W' hf h C' hC'=>by
  go_simp;refine zzM (S1.out _ (HW.out.below h.bel)) λw' hb=>?_;exact⟨rfl,hC' _ (h.next hb)⟩) ?_
 refine qR (.pointer (some ⟨w.heap.size+1+1,1,none⟩)) ?_;refine qR (St y3) ?_ (hy:=λf W' hf h=>by have h0:=h.c1;go_simp);simp only[zzQ];refine qR (.pointer (some ⟨w.heap.size,1,none⟩)) ?_;refine qR (St y1) ?_ (hy:=λf W' hf h=>by have h0:=h.a1;go_simp);simp only[zzQ]
 refine zar (St u2) (by rfl) (λf W' hf h C' hC'=>by
  go_simp;refine zzM (S2.out _ (HW.out.below h.bel)) λw' hb=>?_;exact⟨rfl,hC' _ (h.next hb)⟩) ?_
 try simp only[zzQ]
 refine zar (St u) (by rfl) (λf W' hf h C' hC'=>by
  go_simp;refine zzM (M1.out _ (HW.out.below h.bel)) λw' hb=>?_;exact⟨rfl,hC' _ (h.next hb)⟩) ?_
 refine qR (.pointer (some ⟨w.heap.size+1,1,none⟩)) ?_;refine qR (St y2) ?_ (hy:=λf W' hf h=>by have h0:=h.b1;go_simp);simp only[zzQ];refine qR (.pointer (some ⟨w.heap.size,1,none⟩)) ?_;refine qR (St y1) ?_ (hy:=λf W' hf h=>by have h0:=h.a1;go_simp);simp only[zzQ]
 refine zar (St v1) (by rfl) (λf W' hf h C' hC'=>by
  go_simp;refine zzM (S3.out _ (HW.out.below h.bel)) λw' hb=>?_;exact⟨rfl,hC' _ (h.next hb)⟩) ?_
 refine qR (.pointer (some ⟨w.heap.size+1+1,0,none⟩)) ?_;refine qR (St x3) ?_ (hy:=λf W' hf h=>by have h0:=h.c0;go_simp);simp only[zzQ];refine qR (.pointer (some ⟨w.heap.size,0,none⟩)) ?_;refine qR (St x1) ?_ (hy:=λf W' hf h=>by have h0:=h.a0;go_simp);simp only[zzQ]
 refine zar (St v2) (by rfl) (λf W' hf h C' hC'=>by
  go_simp;refine zzM (S4.out _ (HW.out.below h.bel)) λw' hb=>?_;exact⟨rfl,hC' _ (h.next hb)⟩) ?_
 try simp only[zzQ]
 refine zar (St v) (by rfl) (λf W' hf h C' hC'=>by
  go_simp;refine zzM (M2.out _ (HW.out.below h.bel)) λw' hb=>?_;exact⟨rfl,hC' _ (h.next hb)⟩) ?_
 try simp only[zzQ]
 refine zar (.int .i64 n) (by rfl) (λf W' hf h C' hC'=>by
  go_simp;refine zzM (CM.out _ (HW.out.below h.bel)) λw' hb=>?_;exact⟨rfl,hC' _ (h.next hb)⟩) ?_
 refine qR (.int .i64 n) ?_;simp only[zzQ];refine zck λf W' hf h=>?_;have hB:=h.bel;clear hf h;go_wp21;go_ret;exact⟨rfl,hB⟩
theorem zj3 (a b c:Pt) (k:Nat) (hk:0<k) (hk2:8*k+4<=300) (ha:szP a k) (hb:szP b k) (hc:szP c k) (w:zA) (hw:Wd w):
 qJ 97 #[ptV a,ptV b,ptV c] w (.int .i64 (turn a b c)):=by
 have s1:=zfq hb.1 ha.1;have s2:=zfq hc.2 ha.2;have s3:=zfq hb.2 ha.2;have s4:=zfq hc.1 ha.1;have m1:=zca s1 s2;have m2:=zca s3 s4
 exact zzl _ _ _ _ _ _ _ _ _ _ _ _ _ (hid λW hW=>zgk b.x a.x k k hk hk (by omega) hb.1 ha.1 W hW) (hid λW hW=>zgk c.y a.y k k hk hk (by omega) hc.2 ha.2 W hW)
  (hid λW hW=>zh3 _ _ _ _ (by omega) (by omega) (by omega) s1 s2 W hW) (hid λW hW=>zgk b.y a.y k k hk hk (by omega) hb.2 ha.2 W hW) (hid λW hW=>zgk c.x a.x k k hk hk (by omega) hc.1 ha.1 W hW)
  (hid λW hW=>zh3 _ _ _ _ (by omega) (by omega) (by omega) s3 s4 W hW) (hid λW hW=>zme _ _ _ _ (by omega) (by omega) (by omega) m1 m2 W hW) w (hid hw)
theorem yhy (x1 y1 x2 y2:List UInt8) (n:Int) (hn:decide ((0:Int)<n)=true)
 (O:Hid (qK 180 #[.agg #[St x1,St y1],.agg #[St x2,St y2]] (.int .i64 n))) (w:zA) (HW:Hid (Wd w)):
 qJ 178 #[.agg #[St x1,St y1,St x2,St y2]] w (.agg #[St x2,St y2]):=by
 obtain⟨W3,hW3⟩:=zzX ((w.alloc (.cells #[St x1,St y1,St x2,St y2] 64)).alloc (.cells #[St [],St []] 32));have hB0:qL w W3:=by rw[hW3];exact((zM _ w).alloc (zN _) _).alloc (by simp) _
 have z0:W3.heap.size=w.heap.size+1+1:=by rw[hW3];simp
 have A3:W3.heap[w.heap.size]? =some (.cells #[St x1,St y1,St x2,St y2] 64 (0,0)):=by
  rw[hW3];exact(Below.heap_alloc _ _ _ (by simp only[zH];omega)).trans (zG w _)
 have B3:W3.heap[w.heap.size+1]? =some (.cells #[St [],St []] 32 (0,0)):=by
  have:=zG (w.alloc (.cells #[St x1,St y1,St x2,St y2] 64)) (.cells #[St [],St []] 32 (0,0));rw[zH] at this;rw[hW3];exact this
 have HW3:=hid hW3;clear hW3;go_enter Tryz.func178,Tryz.ntmps178;go_wp21;rw[<-HW3.out];refine zzM (O.out _ (HW.out.below hB0)) λw4 hb4=>?_;have hB4:=hB0.trans (hb4.mono hB0.size);have A4:w4.heap[w.heap.size]? =some (.cells #[St x1,St y1,St x2,St y2] 64 (0,0)):=(hb4.block _ (by omega)).trans A3;have B4:w4.heap[w.heap.size+1]? =some (.cells #[St [],St []] 32 (0,0)):=(hb4.block _ (by omega)).trans B3;have a0:w4.cell? ⟨w.heap.size,0,none⟩=some (St x1):=by simp[World.cell?,A4]
 have a1:w4.cell? ⟨w.heap.size,1,none⟩=some (St y1):=by simp[World.cell?,A4]
 have a2:w4.cell? ⟨w.heap.size,2,none⟩=some (St x2):=by simp[World.cell?,A4]
 have a3:w4.cell? ⟨w.heap.size,3,none⟩=some (St y2):=by simp[World.cell?,A4]
 have b0:w4.cell? ⟨w.heap.size+1,0,none⟩=some (St []):=by simp[World.cell?,B4]
 have b1:w4.cell? ⟨w.heap.size+1,1,none⟩=some (St []):=by simp[World.cell?,B4]
 have f0:w4.frozen? ⟨w.heap.size+1,0,none⟩=false:=by simp[World.frozen?,B4]
 have f1:w4.frozen? ⟨w.heap.size+1,1,none⟩=false:=by simp[World.frozen?,B4]
 clear hb4 A3 B3 A4 B4 z0;go_wp21;refine bodyPost_ret (v:=.agg #[St x2,St y2]) (by simp[results,Tryz.results178,go_sem,b0,b1]) rfl ⟨rfl,?_⟩
 repeat(first|exact hB4|refine Below.setCell ?_ (by simp) _)
theorem yhz (x1 y1 x2 y2:List UInt8) (n:Int) (hn:decide ((0:Int)<n)=false)
 (O:Hid (qK 180 #[.agg #[St x1,St y1],.agg #[St x2,St y2]] (.int .i64 n))) (w:zA) (HW:Hid (Wd w)):
 qJ 178 #[.agg #[St x1,St y1,St x2,St y2]] w (.agg #[St x1,St y1]):=by
 obtain⟨W3,hW3⟩:=zzX ((w.alloc (.cells #[St x1,St y1,St x2,St y2] 64)).alloc (.cells #[St [],St []] 32));have hB0:qL w W3:=by rw[hW3];exact((zM _ w).alloc (zN _) _).alloc (by simp) _
 have z0:W3.heap.size=w.heap.size+1+1:=by rw[hW3];simp
 have A3:W3.heap[w.heap.size]? =some (.cells #[St x1,St y1,St x2,St y2] 64 (0,0)):=by
  rw[hW3];exact(Below.heap_alloc _ _ _ (by simp only[zH];omega)).trans (zG w _)
 have B3:W3.heap[w.heap.size+1]? =some (.cells #[St [],St []] 32 (0,0)):=by
  have:=zG (w.alloc (.cells #[St x1,St y1,St x2,St y2] 64)) (.cells #[St [],St []] 32 (0,0));rw[zH] at this;rw[hW3];exact this
 have HW3:=hid hW3;clear hW3;go_enter Tryz.func178,Tryz.ntmps178;go_wp21;rw[<-HW3.out];refine zzM (O.out _ (HW.out.below hB0)) λw4 hb4=>?_;have hB4:=hB0.trans (hb4.mono hB0.size);have A4:w4.heap[w.heap.size]? =some (.cells #[St x1,St y1,St x2,St y2] 64 (0,0)):=(hb4.block _ (by omega)).trans A3;have B4:w4.heap[w.heap.size+1]? =some (.cells #[St [],St []] 32 (0,0)):=(hb4.block _ (by omega)).trans B3;have a0:w4.cell? ⟨w.heap.size,0,none⟩=some (St x1):=by simp[World.cell?,A4]
 have a1:w4.cell? ⟨w.heap.size,1,none⟩=some (St y1):=by simp[World.cell?,A4]
 have a2:w4.cell? ⟨w.heap.size,2,none⟩=some (St x2):=by simp[World.cell?,A4]
 have a3:w4.cell? ⟨w.heap.size,3,none⟩=some (St y2):=by simp[World.cell?,A4]
 have b0:w4.cell? ⟨w.heap.size+1,0,none⟩=some (St []):=by simp[World.cell?,B4]
 have b1:w4.cell? ⟨w.heap.size+1,1,none⟩=some (St []):=by simp[World.cell?,B4]
 have f0:w4.frozen? ⟨w.heap.size+1,0,none⟩=false:=by simp[World.frozen?,B4]
 have f1:w4.frozen? ⟨w.heap.size+1,1,none⟩=false:=by simp[World.frozen?,B4]
 clear hb4 A3 B3 A4 B4 z0;go_wp21;refine bodyPost_ret (v:=.agg #[St x1,St y1]) (by simp[results,Tryz.results178,go_sem,b0,b1]) rfl ⟨rfl,?_⟩
 repeat(first|exact hB4|refine Below.setCell ?_ (by simp) _)
theorem yhe (x1 y1 x2 y2:List UInt8) (n:Int) (hn:decide ((0:Int)<n)=true)
 (O:Hid (qK 180 #[.agg #[St x1,St y1],.agg #[St x2,St y2]] (.int .i64 n))) (w:zA) (HW:Hid (Wd w)):
 qJ 179 #[.agg #[St x1,St y1,St x2,St y2]] w (.agg #[St x1,St y1]):=by
 obtain⟨W3,hW3⟩:=zzX ((w.alloc (.cells #[St x1,St y1,St x2,St y2] 64)).alloc (.cells #[St [],St []] 32));have hB0:qL w W3:=by rw[hW3];exact((zM _ w).alloc (zN _) _).alloc (by simp) _
 have z0:W3.heap.size=w.heap.size+1+1:=by rw[hW3];simp
 have A3:W3.heap[w.heap.size]? =some (.cells #[St x1,St y1,St x2,St y2] 64 (0,0)):=by
  rw[hW3];exact(Below.heap_alloc _ _ _ (by simp only[zH];omega)).trans (zG w _)
 have B3:W3.heap[w.heap.size+1]? =some (.cells #[St [],St []] 32 (0,0)):=by
  have:=zG (w.alloc (.cells #[St x1,St y1,St x2,St y2] 64)) (.cells #[St [],St []] 32 (0,0));rw[zH] at this;rw[hW3];exact this
 have HW3:=hid hW3;clear hW3;go_enter Tryz.func179,Tryz.ntmps179;go_wp21;rw[<-HW3.out];refine zzM (O.out _ (HW.out.below hB0)) λw4 hb4=>?_;have hB4:=hB0.trans (hb4.mono hB0.size);have A4:w4.heap[w.heap.size]? =some (.cells #[St x1,St y1,St x2,St y2] 64 (0,0)):=(hb4.block _ (by omega)).trans A3;have B4:w4.heap[w.heap.size+1]? =some (.cells #[St [],St []] 32 (0,0)):=(hb4.block _ (by omega)).trans B3;have a0:w4.cell? ⟨w.heap.size,0,none⟩=some (St x1):=by simp[World.cell?,A4]
 have a1:w4.cell? ⟨w.heap.size,1,none⟩=some (St y1):=by simp[World.cell?,A4]
 have a2:w4.cell? ⟨w.heap.size,2,none⟩=some (St x2):=by simp[World.cell?,A4]
 have a3:w4.cell? ⟨w.heap.size,3,none⟩=some (St y2):=by simp[World.cell?,A4]
 have b0:w4.cell? ⟨w.heap.size+1,0,none⟩=some (St []):=by simp[World.cell?,B4]
 have b1:w4.cell? ⟨w.heap.size+1,1,none⟩=some (St []):=by simp[World.cell?,B4]
 have f0:w4.frozen? ⟨w.heap.size+1,0,none⟩=false:=by simp[World.frozen?,B4]
 have f1:w4.frozen? ⟨w.heap.size+1,1,none⟩=false:=by simp[World.frozen?,B4]
 clear hb4 A3 B3 A4 B4 z0;go_wp21;refine bodyPost_ret (v:=.agg #[St x1,St y1]) (by simp[results,Tryz.results179,go_sem,b0,b1]) rfl ⟨rfl,?_⟩
 repeat(first|exact hB4|refine Below.setCell ?_ (by simp) _)
theorem yhf (x1 y1 x2 y2:List UInt8) (n:Int) (hn:decide ((0:Int)<n)=false)
 (O:Hid (qK 180 #[.agg #[St x1,St y1],.agg #[St x2,St y2]] (.int .i64 n))) (w:zA) (HW:Hid (Wd w)):
 qJ 179 #[.agg #[St x1,St y1,St x2,St y2]] w (.agg #[St x2,St y2]):=by
 obtain⟨W3,hW3⟩:=zzX ((w.alloc (.cells #[St x1,St y1,St x2,St y2] 64)).alloc (.cells #[St [],St []] 32));have hB0:qL w W3:=by rw[hW3];exact((zM _ w).alloc (zN _) _).alloc (by simp) _
 have z0:W3.heap.size=w.heap.size+1+1:=by rw[hW3];simp
 have A3:W3.heap[w.heap.size]? =some (.cells #[St x1,St y1,St x2,St y2] 64 (0,0)):=by
  rw[hW3];exact(Below.heap_alloc _ _ _ (by simp only[zH];omega)).trans (zG w _)
 have B3:W3.heap[w.heap.size+1]? =some (.cells #[St [],St []] 32 (0,0)):=by
  have:=zG (w.alloc (.cells #[St x1,St y1,St x2,St y2] 64)) (.cells #[St [],St []] 32 (0,0));rw[zH] at this;rw[hW3];exact this
 have HW3:=hid hW3;clear hW3;go_enter Tryz.func179,Tryz.ntmps179;go_wp21;rw[<-HW3.out];refine zzM (O.out _ (HW.out.below hB0)) λw4 hb4=>?_;have hB4:=hB0.trans (hb4.mono hB0.size);have A4:w4.heap[w.heap.size]? =some (.cells #[St x1,St y1,St x2,St y2] 64 (0,0)):=(hb4.block _ (by omega)).trans A3;have B4:w4.heap[w.heap.size+1]? =some (.cells #[St [],St []] 32 (0,0)):=(hb4.block _ (by omega)).trans B3;have a0:w4.cell? ⟨w.heap.size,0,none⟩=some (St x1):=by simp[World.cell?,A4]
 have a1:w4.cell? ⟨w.heap.size,1,none⟩=some (St y1):=by simp[World.cell?,A4]
 have a2:w4.cell? ⟨w.heap.size,2,none⟩=some (St x2):=by simp[World.cell?,A4]
 have a3:w4.cell? ⟨w.heap.size,3,none⟩=some (St y2):=by simp[World.cell?,A4]
 have b0:w4.cell? ⟨w.heap.size+1,0,none⟩=some (St []):=by simp[World.cell?,B4]
 have b1:w4.cell? ⟨w.heap.size+1,1,none⟩=some (St []):=by simp[World.cell?,B4]
 have f0:w4.frozen? ⟨w.heap.size+1,0,none⟩=false:=by simp[World.frozen?,B4]
 have f1:w4.frozen? ⟨w.heap.size+1,1,none⟩=false:=by simp[World.frozen?,B4]
 clear hb4 A3 B3 A4 B4 z0;go_wp21;refine bodyPost_ret (v:=.agg #[St x2,St y2]) (by simp[results,Tryz.results179,go_sem,b0,b1]) rfl ⟨rfl,?_⟩
 repeat(first|exact hB4|refine Below.setCell ?_ (by simp) _)
def segV (a b:Pt):Value:=.agg #[St (numS a.x),St (numS a.y),St (numS b.x),St (numS b.y)]
theorem zzm (a b:Pt) (k:Nat) (hk:0<k) (hk2:8*k+4<=300) (ha:szP a k) (hb:szP b k) (w:zA) (hw:Wd w):
 qJ 178 #[segV a b] w (ptV (low a b)):=by
 have O:=hid λW hW=>zm2 a b k k hk hk (by omega) ha hb W hW;unfold low;by_cases h:ordP a b>0
 ·rw[if_pos h];exact yhy _ _ _ _ _ (decide_eq_true h) O w (hid hw)
 ·rw[if_neg h];exact yhz _ _ _ _ _ (decide_eq_false h) O w (hid hw)
theorem ztf (a b:Pt) (k:Nat) (hk:0<k) (hk2:8*k+4<=300) (ha:szP a k) (hb:szP b k) (w:zA) (hw:Wd w):
 qJ 179 #[segV a b] w (ptV (high a b)):=by
 have O:=hid λW hW=>zm2 a b k k hk hk (by omega) ha hb W hW;unfold high;by_cases h:ordP a b>0
 ·rw[if_pos h];exact yhe _ _ _ _ _ (decide_eq_true h) O w (hid hw)
 ·rw[if_neg h];exact yhf _ _ _ _ _ (decide_eq_false h) O w (hid hw)
theorem zqh {a b:Int} (ha: -1<=a/\a<=1) (hb: -1<=b/\b<=1): -9223372036854775808<=a*b/\a*b<=9223372036854775807:=by
 have:a= -1\/a=0\/a=1:=by omega
 rcases this with rfl|rfl|rfl<;>omega
structure MeetS (w:zA) (x1 y1 x2 y2 x3 y3 x4 y4:List UInt8) (W:zA):Prop where
 bel:qL w W
 lt:w.heap.size+1<W.heap.size
 hs:W.heap[w.heap.size]? =some (.cells #[St x1,St y1,St x2,St y2] 64 (0,0))
 ht:W.heap[w.heap.size+1]? =some (.cells #[St x3,St y3,St x4,St y4] 64 (0,0))
theorem MeetS.s0 {w:zA} {x1 y1 x2 y2 x3 y3 x4 y4:List UInt8} {W:zA} (h:MeetS w x1 y1 x2 y2 x3 y3 x4 y4 W):W.cell? ⟨w.heap.size,0,none⟩=some (St x1):=by have:=h.hs;simp[World.cell?,this]
theorem MeetS.s1 {w:zA} {x1 y1 x2 y2 x3 y3 x4 y4:List UInt8} {W:zA} (h:MeetS w x1 y1 x2 y2 x3 y3 x4 y4 W):W.cell? ⟨w.heap.size,1,none⟩=some (St y1):=by have:=h.hs;simp[World.cell?,this]
theorem MeetS.s2 {w:zA} {x1 y1 x2 y2 x3 y3 x4 y4:List UInt8} {W:zA} (h:MeetS w x1 y1 x2 y2 x3 y3 x4 y4 W):W.cell? ⟨w.heap.size,2,none⟩=some (St x2):=by have:=h.hs;simp[World.cell?,this]
theorem MeetS.s3 {w:zA} {x1 y1 x2 y2 x3 y3 x4 y4:List UInt8} {W:zA} (h:MeetS w x1 y1 x2 y2 x3 y3 x4 y4 W):W.cell? ⟨w.heap.size,3,none⟩=some (St y2):=by have:=h.hs;simp[World.cell?,this]
theorem MeetS.t0 {w:zA} {x1 y1 x2 y2 x3 y3 x4 y4:List UInt8} {W:zA} (h:MeetS w x1 y1 x2 y2 x3 y3 x4 y4 W):W.cell? ⟨w.heap.size+1,0,none⟩=some (St x3):=by have:=h.ht;simp[World.cell?,this]
theorem MeetS.t1 {w:zA} {x1 y1 x2 y2 x3 y3 x4 y4:List UInt8} {W:zA} (h:MeetS w x1 y1 x2 y2 x3 y3 x4 y4 W):W.cell? ⟨w.heap.size+1,1,none⟩=some (St y3):=by have:=h.ht;simp[World.cell?,this]
theorem MeetS.t2 {w:zA} {x1 y1 x2 y2 x3 y3 x4 y4:List UInt8} {W:zA} (h:MeetS w x1 y1 x2 y2 x3 y3 x4 y4 W):W.cell? ⟨w.heap.size+1,2,none⟩=some (St x4):=by have:=h.ht;simp[World.cell?,this]
theorem MeetS.t3 {w:zA} {x1 y1 x2 y2 x3 y3 x4 y4:List UInt8} {W:zA} (h:MeetS w x1 y1 x2 y2 x3 y3 x4 y4 W):W.cell? ⟨w.heap.size+1,3,none⟩=some (St y4):=by have:=h.ht;simp[World.cell?,this]
theorem MeetS.next {w:zA} {x1 y1 x2 y2 x3 y3 x4 y4:List UInt8} {W W':zA} (h:MeetS w x1 y1 x2 y2 x3 y3 x4 y4 W) (hb:qL W W'):MeetS w x1 y1 x2 y2 x3 y3 x4 y4 W':=
 ⟨h.bel.trans (hb.mono h.bel.size),Nat.lt_of_lt_of_le h.lt hb.size,(hb.block _ (by have:=h.lt;omega)).trans h.hs,(hb.block _ h.lt).trans h.ht⟩
theorem zxa (x1 y1 x2 y2 x3 y3 x4 y4:List UInt8) (a b c d r:Int)
 (TA:Hid (qK 97 #[.agg #[St x1,St y1],.agg #[St x2,St y2],.agg #[St x3,St y3]] (.int .i64 a)))
 (TB:Hid (qK 97 #[.agg #[St x1,St y1],.agg #[St x2,St y2],.agg #[St x4,St y4]] (.int .i64 b)))
 (TC:Hid (qK 97 #[.agg #[St x3,St y3],.agg #[St x4,St y4],.agg #[St x1,St y1]] (.int .i64 c)))
 (TD:Hid (qK 97 #[.agg #[St x3,St y3],.agg #[St x4,St y4],.agg #[St x2,St y2]] (.int .i64 d)))
 (ba: -1<=a/\a<=1) (bb: -1<=b/\b<=1) (bc: -1<=c/\c<=1) (bd: -1<=d/\d<=1)
 (hn:¬(a=0/\b=0/\c=0/\d=0)) (hr:r=if a*b<=0/\c*d<=0 then 1 else 0)
 (w:zA) (HW:Hid (Wd w)):
 qJ 95 #[.agg #[St x1,St y1,St x2,St y2],.agg #[St x3,St y3,St x4,St y4]] w (.int .i64 r):=by
 have hinit:MeetS w x1 y1 x2 y2 x3 y3 x4 y4 ((w.alloc (.cells #[St x1,St y1,St x2,St y2] 64)).alloc (.cells #[St x3,St y3,St x4,St y4] 64)):=by
  have e1:=zG w (.cells #[St x1,St y1,St x2,St y2] 64 (0,0));have e2:=zG (w.alloc (.cells #[St x1,St y1,St x2,St y2] 64)) (.cells #[St x3,St y3,St x4,St y4] 64 (0,0));simp only[zH] at e2;refine⟨((zM _ w).alloc (zN _) _).alloc (by simp) _,by simp,?_,e2⟩;exact(Below.heap_alloc _ _ _ (by simp only[zH];omega)).trans e1
 have HI:=hid hinit;clear hinit;have HN:=hid hn;have HR:=hid hr;clear hn hr;go_enter Tryz.func95,Tryz.ntmps95;go_wp21;refine zbl (λ_ W=>MeetS w x1 y1 x2 y2 x3 y3 x4 y4 W) (by kernel_rfl) (by kernel_rfl) (by have h:=HI.out;exact⟨h.bel.drew,h.lt,h.hs,h.ht⟩) ?_;refine qR (.pointer (some ⟨w.heap.size,0,none⟩)) ?_;refine qR (.agg #[St x1,St y1]) ?_ (hy:=λf W' hf h=>by have h0:=h.s0;have h1:=h.s1;go_simp);refine qR (.pointer (some ⟨w.heap.size,2,none⟩)) ?_;simp only[zzQ];refine qR (.agg #[St x2,St y2]) ?_ (hy:=λf W' hf h=>by have h0:=h.s2;have h1:=h.s3;go_simp);refine qR (.pointer (some ⟨w.heap.size+1,0,none⟩)) ?_;refine qR (.agg #[St x3,St y3]) ?_ (hy:=λf W' hf h=>by have h0:=h.t0;have h1:=h.t1;go_simp);simp only[zzQ]
 refine zar (.int .i64 a) (by rfl) (λf W' hf h C' hC'=>by
  go_simp;refine zzM (TA.out _ (HW.out.below h.bel)) λw' hb=>?_;exact⟨rfl,hC' _ (h.next hb)⟩) ?_
 refine qR (.pointer (some ⟨w.heap.size,0,none⟩)) ?_;refine qR (.agg #[St x1,St y1]) ?_ (hy:=λf W' hf h=>by have h0:=h.s0;have h1:=h.s1;go_simp);simp only[zzQ];refine qR (.pointer (some ⟨w.heap.size,2,none⟩)) ?_;refine qR (.agg #[St x2,St y2]) ?_ (hy:=λf W' hf h=>by have h0:=h.s2;have h1:=h.s3;go_simp);refine qR (.pointer (some ⟨w.heap.size+1,2,none⟩)) ?_;simp only[zzQ];refine qR (.agg #[St x4,St y4]) ?_ (hy:=λf W' hf h=>by have h0:=h.t2;have h1:=h.t3;go_simp);simp only[zzQ]
 refine zar (.int .i64 b) (by rfl) (λf W' hf h C' hC'=>by
  go_simp;refine zzM (TB.out _ (HW.out.below h.bel)) λw' hb=>?_;exact⟨rfl,hC' _ (h.next hb)⟩) ?_
 refine qR (.int .i64 a) ?_;refine qR (.int .i64 b) ?_;simp only[zzQ];refine zck λf W1 hf h1=>?_;clear hf f;have H1:=hid h1;clear h1;go_wp21;refine zbl (λ_ W=>MeetS w x1 y1 x2 y2 x3 y3 x4 y4 W) (by kernel_rfl) (by kernel_rfl) (by have h:=H1.out;exact⟨h.bel.drew,h.lt,h.hs,h.ht⟩) ?_;refine qR (.pointer (some ⟨w.heap.size+1,0,none⟩)) ?_;refine qR (.agg #[St x3,St y3]) ?_ (hy:=λf W' hf h=>by have h0:=h.t0;have h1:=h.t1;go_simp);refine qR (.pointer (some ⟨w.heap.size+1,2,none⟩)) ?_;simp only[zzQ];refine qR (.agg #[St x4,St y4]) ?_ (hy:=λf W' hf h=>by have h0:=h.t2;have h1:=h.t3;go_simp);refine qR (.pointer (some ⟨w.heap.size,0,none⟩)) ?_;refine qR (.agg #[St x1,St y1]) ?_ (hy:=λf W' hf h=>by have h0:=h.s0;have h1:=h.s1;go_simp);simp only[zzQ]
 refine zar (.int .i64 c) (by rfl) (λf W' hf h C' hC'=>by
  go_simp;refine zzM (TC.out _ (HW.out.below h.bel)) λw' hb=>?_;exact⟨rfl,hC' _ (h.next hb)⟩) ?_
 refine qR (.pointer (some ⟨w.heap.size+1,0,none⟩)) ?_;refine qR (.agg #[St x3,St y3]) ?_ (hy:=λf W' hf h=>by have h0:=h.t0;have h1:=h.t1;go_simp);simp only[zzQ];refine qR (.pointer (some ⟨w.heap.size+1,2,none⟩)) ?_;refine qR (.agg #[St x4,St y4]) ?_ (hy:=λf W' hf h=>by have h0:=h.t2;have h1:=h.t3;go_simp);refine qR (.pointer (some ⟨w.heap.size,2,none⟩)) ?_;simp only[zzQ];refine qR (.agg #[St x2,St y2]) ?_ (hy:=λf W' hf h=>by have h0:=h.s2;have h1:=h.s3;go_simp);simp only[zzQ]
 refine zar (.int .i64 d) (by rfl) (λf W' hf h C' hC'=>by
  go_simp;refine zzM (TD.out _ (HW.out.below h.bel)) λw' hb=>?_;exact⟨rfl,hC' _ (h.next hb)⟩) ?_
 refine qR (.int .i64 c) ?_;refine qR (.int .i64 d) ?_;simp only[zzQ];refine zck λf W2 hf h2=>?_;have hB:=h2.bel;clear hf f h2 H1;have w1:IntKind.i64.wrap (a*b)=a*b:=zI _ (zqh ba bb);have w2:IntKind.i64.wrap (c*d)=c*d:=zI _ (zqh bc bd);have hq:(a*b<=0/\c*d<=0/\r=1)\/(a*b<=0/\¬c*d<=0/\r=0)\/(¬a*b<=0/\r=0):=by
  have:=HR.out;by_cases h1:a*b<=0
  ·by_cases h2:c*d<=0
   ·exact .inl ⟨h1,h2,by rw[this,if_pos ⟨h1,h2⟩]⟩
   ·exact .inr (.inl ⟨h1,h2,by rw[this,if_neg (λh=>h2 h.2)]⟩)
  ·exact .inr (.inr ⟨h1,by rw[this,if_neg (λh=>h1 h.1)]⟩)
 have hz:(a !=0)=true\/((a !=0)=false/\(b !=0)=true)\/((a !=0)=false/\(b !=0)=false/\(c !=0)=true)\/((a !=0)=false/\(b !=0)=false/\(c !=0)=false/\(d !=0)=true):=by
  have:=HN.out;simp only[bne_iff_ne,bne_eq_false_iff_eq];omega
 clear ba bb bc bd HN HR HI TA TB TC TD;rcases hq with⟨q1,q2,rfl⟩|⟨q1,q2,rfl⟩|⟨q1,rfl⟩<;>rcases hz with z1|⟨z1,z2⟩|⟨z1,z2,z3⟩|⟨z1,z2,z3,z4⟩<;>
 ·go_wp21
  go_ret;exact⟨rfl,hB⟩
end Go.Proofs.YtnjiiafnneillaaGreatDoor
