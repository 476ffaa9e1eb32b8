/- kingpostref02.make2, negative, add. -/
import Derived.Test.YtlaccnphhomdgaaGreatDoorQ23
import Derived.Test.YtlaccnphhomdgaaGreatDoorQ11
import Derived.Test.YtlaccnphhomdgaaGreatDoorQ13
set_option maxRecDepth 100000
set_option maxHeartbeats 8000000
open Go renaming World → zA, Calls → zC
open Go.RowKit renaming Below → zB
open Go.Lib renaming decDigits → zD, itoa → zE
open Go.Proofs.Tryz renaming prog → zF
open Go.World renaming alloc_heap_new → zG, size_alloc → zH
open Go.IntWalk renaming i64_in → zI
open Go.RowKit.Below renaming refl → zM
open Nat renaming le_refl → zN
open Int renaming natAbs_mul → yK
namespace Go.Proofs.YtlaccnphhomdgaaGreatDoor
section
open Go.RowKit Go.Shelf Lib Str Limb
attribute [local go_sem] Oper.semAt_some
theorem zn3 (n:Int) (D:Nat) (hD:0<D) (hn3:digs n<=300) (hd3:(zD D).length<=300) (w:zA) (hw:Wd w):
 zC zF 247 #[St (zE n),St (zD D)] w λe w'=>e=.returned (.tuple #[St (numS (Rat.divInt n (D:Int))),.int .i64 0])/\zB w.heap.size w w':=by
 by_cases hs:(zE n).length<=18/\(zD D).length<=18
 ·by_cases hm:n<0
  ·exact zqb n D hD hm hs.1 hs.2 w
  ·exact zqc n D hD hm hs.1 hs.2 w
 ·have hor:18<(zE n).length\/((zE n).length<=18/\18<(zD D).length):=by omega
  obtain⟨g,hg⟩:∃g,g=Int.gcd n (D:Int):=⟨_,rfl⟩
  have hg0:0<g:=by rw[hg];exact Int.gcd_pos_of_ne_zero_right _ (by omega)
  have hgn:((g:Int))∣n:=by rw[hg];exact Int.gcd_dvd_left ..
  have hgD:g∣D:=by
   have h:((Int.gcd n (D:Int):Nat):Int)∣(D:Int):=Int.gcd_dvd_right ..
   rw[<-hg] at h;exact Int.natCast_dvd_natCast.1 h
  have hq:n=(n/(g:Int))*(g:Int):=(Int.ediv_mul_cancel hgn).symm
  have hd:D=(D/g)*g:=(Nat.div_mul_cancel hgD).symm
  have e:=zif n (D:Int) (by omega)
  rw[<-hg,<-Int.natCast_ediv,Str.zad] at e
  rw[e]
  by_cases h1:D/g=1
  ·rw[if_pos (by omega)]
   by_cases hm:n<0
   ·exact zqd n D g (D/g) (n/g) hD hg hq hd hm h1 hn3 hd3 hor w hw
   ·exact zqf n D g (D/g) (n/g) hD hg hq hd hm h1 hn3 hd3 hor w hw
  ·rw[if_neg (by omega)]
   by_cases hm:n<0
   ·exact zqe n D g (D/g) (n/g) hD hg hq hd hm h1 hn3 hd3 hor w hw
   ·exact zqg n D g (D/g) (n/g) hD hg hq hd hm h1 hn3 hd3 hor w hw
theorem zon (q:Rat):numS q=[48]↔q.num=0:=by
 constructor
 ·intro h
  have h1:=(zph q).1
  rw[h] at h1
  have h2:upS [48]=[48]:=by decide
  rw[h2] at h1
  have:=congrArg val h1
  rw[zb2] at this
  simp[val] at this
  omega
 ·intro h
  have:q=0:=Rat.num_eq_zero.1 h
  rw[this];decide+kernel
theorem zz1 (q:Rat) (h:okN q) (w:zA):
 zC zF 215 #[St (numS q)] w λe w'=>e=.returned (St (numS (-q)))/\w'=w:=by
 have hn:(-q).num= -q.num:=rfl
 have hd:(-q).den=q.den:=rfl
 have hlen:=zuc h
 have htail:∃t:List UInt8,numS q=zE q.num++t/\numS (-q)=zE (-q.num)++t:=⟨if q.den=1 then[] else 47::zD q.den,rfl,by unfold numS;rw[hn,hd]⟩
 obtain⟨t,e1,e2⟩:=htail
 rcases Int.lt_trichotomy q.num 0 with hm|hm|hm
 ·have i1:zE q.num=45::zD q.num.natAbs:=by rcases zbg q.num with⟨k,_⟩|⟨_,e⟩;omega;exact e
  have i2:zE (-q.num)=zD q.num.natAbs:=by
   rcases zbg (-q.num) with⟨_,e⟩|⟨k,_⟩
   ·rw[e,Int.natAbs_neg]
   ·omega
  rw[e1,e2,i1,i2]
  rw[e1,i1] at hlen
  have hz:¬((45::zD q.num.natAbs)++t=[48]):=by simp
  have hz2:(((45::zD q.num.natAbs)++t)==[48])=false:=by rw[beq_eq_false_iff_ne];exact hz
  generalize zD q.num.natAbs=a at*
  obtain⟨s,hs⟩:∃s:ByteArray,s=⟨((45::a)++t).toArray⟩:=⟨_,rfl⟩
  obtain⟨b1,b2⟩:=zdd ((45::a)++t) s hs
  have h0:0<s.size:=by rw[b1];simp
  have h45:(((s[0]'h0).toNat:Int)==45)=true:=by rw[b2 0 (by simp) h0];rfl
  have hx:s.extract 1 s.size=⟨(a++t).toArray⟩:=by rw[hs,zev];rfl
  have hsz:s.size<=1000:=by rw[b1];exact hlen
  have hz3:(s.toList==[48])=false:=by rw[zgl _ s hs];simp
  obtain⟨r,hr⟩:∃r:ByteArray,r=⟨(a++t).toArray⟩:=⟨_,rfl⟩
  show zC _ _ #[.string ⟨((45::a)++t).toArray⟩] _ (λe w'=>e=.returned (.string ⟨(a++t).toArray⟩)/\w'=w)
  rw[<-hs,<-hr]
  rw[<-hr] at hx
  clear hs hr b1 b2 hz hz2 e1 e2 i1 i2 hlen hm hn hd h
  go_enter Tryz.func215,Tryz.ntmps215
  go_wp2
  go_ret
  exact⟨rfl,rfl⟩
 ·have hq0:q=0:=Rat.num_eq_zero.1 hm
  rw[hq0,show numS (0:Rat)=[48] by decide+kernel,show numS (-(0:Rat))=[48] by decide+kernel]
  go_enter Tryz.func215,Tryz.ntmps215
  go_wp2
  go_ret
  exact⟨rfl,rfl⟩
 ·have i1:zE q.num=zD q.num.natAbs:=by rcases zbg q.num with⟨_,e⟩|⟨k,_⟩;exact e;omega
  have i2:zE (-q.num)=45::zD q.num.natAbs:=by
   rcases zbg (-q.num) with⟨k,_⟩|⟨_,e⟩
   ·omega
   ·rw[e,Int.natAbs_neg]
  have hz:¬(numS q=[48]):=λk=>by have:=(zon q).1 k;omega
  rw[e1,i1] at hz hlen⊢
  rw[e2,i2]
  have hd0:=zan q.num.natAbs
  have hp0:0<(zD q.num.natAbs).length:=by have:=zbn (q.num.natAbs:Int);unfold digs at this;rw[Int.natAbs_natCast] at this;omega
  generalize zD q.num.natAbs=a at*
  obtain⟨s,hs⟩:∃s:ByteArray,s=⟨(a++t).toArray⟩:=⟨_,rfl⟩
  obtain⟨b1,b2⟩:=zdd (a++t) s hs
  have h0:0<s.size:=by rw[b1];simp;omega
  have h45:(((s[0]'h0).toNat:Int)==45)=false:=by
   rw[beq_eq_false_iff_ne,b2 0 (by simp;omega) h0,List.getElem_append_left hp0]
   have:=hd0 _ (List.getElem_mem hp0);omega
  have hsz:s.size<=1000:=by rw[b1];exact hlen
  have f1:¬(9223372036854775807<1+s.size):=by omega
  have hz3:(s.toList==[48])=false:=by rw[zgl _ s hs];simpa using hz
  show zC _ _ #[.string ⟨(a++t).toArray⟩] _ _
  rw[<-hs]
  have HS:=hid hs
  clear hs b1 b2 hz e1 e2 i1 i2 hlen hm hn hd h hd0 hp0
  go_enter Tryz.func215,Tryz.ntmps215
  go_wp2
  go_ret
  refine⟨?_,rfl⟩
  show Ending.returned (.string ((⟨#[45]⟩:ByteArray)++s))=_
  rw[HS.out,zhf]
  try rfl
theorem zc1 {q:Rat} {k:Nat} (hk:0<k) (hk3:k<=300) (h:sz q k):okN q:=
 ⟨Nat.le_trans ((za3 _ k hk).2 h.1) hk3,Nat.le_trans ((zaf _ k hk).2 h.2) hk3⟩
theorem zjk {q:Rat} (h:zbc q):q.num.natAbs<1000000000/\q.den<1000000000:=⟨(za3 _ 9 (by omega)).1 h.1,(zaf _ 9 (by omega)).1 h.2⟩
theorem zfb {x y:Int} {i j:Nat} (hij:0<i+j) (hx:x.natAbs<10^i) (hy:y.natAbs<10^j):digs (x*y)<=i+j:=by
 rw[za3 _ _ hij,yK,Nat.pow_add]
 exact Nat.mul_lt_mul'' hx hy
theorem zn4 {x y i j:Nat} (hij:0<i+j) (hx:x<10^i) (hy:y<10^j):(zD (x*y)).length<=i+j:=by
 rw[zaf _ _ hij,Nat.pow_add]
 exact Nat.mul_lt_mul'' hx hy
theorem zth {x y:Int} {k:Nat} (hk:0<k) (hx:digs x<=k) (hy:digs y<=k):digs (x+y)<=k+1:=zhz hk hx hy
theorem zxy (p q:Rat) (hp:okN p) (hq:okN q) (np:zbc p) (nq:zbc q) (w:zA):
 zC zF 214 #[St (numS p),St (numS q)] w λe w'=>e=.returned (.tuple #[St (numS (p+q)),.int .i64 0])/\zB w.heap.size w w':=by
 rw[zf0]
 have c1:=λW=>zef p hp np W
 have c2:=λW=>zef q hq nq W
 obtain⟨b1,b2⟩:=zjk np
 obtain⟨b3,b4⟩:=zjk nq
 have hdp:=p.den_pos;have hdq:=q.den_pos
 have m1:(p.num*q.den).natAbs<=999999998000000001:=by
  rw[yK,Int.natAbs_natCast];exact Nat.mul_le_mul (show p.num.natAbs<=999999999 by omega) (show q.den<=999999999 by omega)
 have m2:(q.num*p.den).natAbs<=999999998000000001:=by
  rw[yK,Int.natAbs_natCast];exact Nat.mul_le_mul (show q.num.natAbs<=999999999 by omega) (show p.den<=999999999 by omega)
 have m3:p.den*q.den<=999999998000000001:=Nat.mul_le_mul (show p.den<=999999999 by omega) (show q.den<=999999999 by omega)
 have m4:0<p.den*q.den:=Nat.mul_pos hdp hdq
 have qk:=λW=>zhg (p.num*q.den+q.num*p.den) (p.den*q.den) (by omega) m4 (by omega) W
 have e1:IntKind.i64.wrap (p.num*q.den)=p.num*q.den:=zI _ (by omega)
 have e2:IntKind.i64.wrap (q.num*p.den)=q.num*p.den:=zI _ (by omega)
 have e3:IntKind.i64.wrap (p.num*q.den+q.num*p.den)=p.num*q.den+q.num*p.den:=zI _ (by omega)
 have e4:IntKind.i64.wrap ((p.den:Int)*q.den)=((p.den*q.den:Nat):Int):=by rw[<-Int.natCast_mul];exact zI _ (by omega)
 obtain⟨D,hD⟩:∃D,D=p.den*q.den:=⟨_,rfl⟩
 rw[<-hD] at qk e4⊢
 have C1:=hid c1;have C2:=hid c2;have QK:=hid qk
 clear c1 c2 qk np nq hp hq b1 b2 b3 b4 hdp hdq m1 m2 m3 m4 hD
 generalize numS (Rat.divInt (p.num*q.den+q.num*p.den) (D:Int))=t at*
 generalize numS p=sp at*
 generalize numS q=sq at*
 generalize p.num=a at*
 generalize q.num=b at*
 generalize p.den=c at*
 generalize q.den=d at*
 go_enter Tryz.func214,Tryz.ntmps214
 go_wp2_with fail
 refine(C1.out w).mono ?_
 rintro e w1 ⟨rfl,hb1⟩
 have HB1:=hid hb1;clear hb1
 go_wp2_with fail
 refine(C2.out w1).mono ?_
 rintro e w2 ⟨rfl,hb2⟩
 have HB2:=hid (HB1.out.trans (hb2.mono HB1.out.size));clear hb2
 go_wp2_with fail
 refine(QK.out w2).mono ?_
 rintro e w3 ⟨rfl,hb3⟩
 have HB3:=hid (HB2.out.trans (hb3.mono HB2.out.size));clear hb3
 go_wp2_with fail
 go_ret2
 exact⟨rfl,HB3.out⟩
instance (q:Rat):Decidable (zbc q):=by unfold zbc;infer_instance
theorem zfu (q:Rat) (h:okN q) (w:zA):
 zC zF 209 #[St (numS q)] w λe w'=>(∃a b:Int,e=.returned (.tuple #[.int .i64 a,.int .i64 b,.bool (decide (zbc q))]))/\zB w.heap.size w w':=by
 by_cases hn:zbc q
 ·rw[decide_eq_true hn]
  exact(zef q h hn w).mono λe w' ⟨h1,h2⟩=>⟨⟨_,_,h1⟩,h2⟩
 ·rw[decide_eq_false hn]
  exact(zxr q h hn w).mono λe w' ⟨h1,h2⟩=>⟨⟨_,_,h1⟩,h2⟩
theorem zxz:zE 1=[49]:=by rw[show(1:Int)=((1:Nat):Int) from rfl,Str.zad];decide+kernel
theorem zz2 (p q:Rat) (i j:Nat) (hi:0<i) (hj:0<j) (hij:i+j<300) (sp:sz p i) (sq:sz q j) (hf:¬(zbc p/\zbc q)) (w:zA) (hw:Wd w):
 zC zF 214 #[St (numS p),St (numS q)] w λe w'=>e=.returned (.tuple #[St (numS (p+q)),.int .i64 0])/\zB w.heap.size w w':=by
 rw[zf0]
 have hp:=zc1 hi (by omega) sp
 have hq:=zc1 hj (by omega) sq
 have c1:=λW=>zfu p hp W
 have c2:=λW=>zfu q hq W
 have c3:=λW=>zee p hp W
 have c4:=λW=>zee q hq W
 have dg:∀k:Nat,digs (k:Int)=(zD k).length:=λk=>by unfold digs;rw[Int.natAbs_natCast]
 have x1:digs (p.num*q.den)<=i+j:=zfb (by omega) sp.1 (by rw[Int.natAbs_natCast];exact sq.2)
 have x2:digs (q.num*p.den)<=i+j:=by rw[Nat.add_comm];exact zfb (by omega) sq.1 (by rw[Int.natAbs_natCast];exact sp.2)
 have x3:(zD (p.den*q.den)).length<=i+j:=zn4 (by omega) sp.2 sq.2
 have x4:digs (p.num*q.den+q.num*p.den)<=i+j+1:=zth (by omega) x1 x2
 have c5:=λW hW=>zff p.num (q.den:Int) q.num (p.den:Int) hp.1 (by rw[dg];exact hq.2) hq.1 (by rw[dg];exact hp.2) (by omega) (by omega) W hW
 have c6:=λW hW=>zff (p.den:Int) (q.den:Int) 1 1 (by rw[dg];exact hp.2) (by rw[dg];exact hq.2) (by decide+kernel) (by decide+kernel) (by rw[<-Int.natCast_mul,dg];omega) (by decide+kernel) W hW
 have c7:=λW hW=>zzz (p.num*q.den) (q.num*p.den) (by omega) (by omega) (by omega) W hW
 have c8:=λW hW=>zn3 (p.num*q.den+q.num*p.den) (p.den*q.den) (Nat.mul_pos p.den_pos q.den_pos) (by omega) (by omega) W hW
 rw[Int.mul_one,zxz,Str.zad,Str.zad,<-Int.natCast_mul,Str.zad] at c6
 rw[Str.zad,Str.zad] at c5
 have hcase:(decide (zbc p)=false)\/(decide (zbc p)=true/\decide (zbc q)=false):=by
  by_cases h1:zbc p
  ·right;exact⟨decide_eq_true h1,decide_eq_false (λh2=>hf ⟨h1,h2⟩)⟩
  ·left;exact decide_eq_false h1
 have C1:=hid c1;have C2:=hid c2;have C3:=hid c3;have C4:=hid c4;have C5:=hid c5;have C6:=hid c6;have C7:=hid c7;have C8:=hid c8;have HW:=hid hw
 clear c1 c2 c3 c4 c5 c6 c7 c8 hw hp hq dg x1 x2 x3 x4 sp sq hf
 generalize numS (Rat.divInt (p.num*q.den+q.num*p.den) ((p.den*q.den:Nat):Int))=t at*
 generalize zE (p.num*q.den+q.num*p.den)=sum at*
 generalize zE (p.num*q.den)=m1 at*
 generalize zE (q.num*p.den)=m2 at*
 generalize zD (p.den*q.den)=m3 at*
 generalize numS p=tp at*
 generalize numS q=tq at*
 generalize zE p.num=n1 at*
 generalize zE q.num=n2 at*
 generalize zD p.den=d1 at*
 generalize zD q.den=d2 at*
 generalize decide (zbc p)=b1 at*
 generalize decide (zbc q)=b2 at*
 go_enter Tryz.func214,Tryz.ntmps214
 go_wp2_with fail
 refine(C1.out w).mono ?_
 rintro e w1 ⟨⟨za,zb,rfl⟩,hb1⟩
 have HB1:=hid hb1;clear hb1
 go_wp2_with fail
 refine(C2.out w1).mono ?_
 rintro e w2 ⟨⟨zc,zd,rfl⟩,hb2⟩
 have HB2:=hid (HB1.out.trans (hb2.mono HB1.out.size));clear hb2
 rcases hcase with rfl|⟨rfl,rfl⟩<;>(
  go_wp2_with fail
  refine(C3.out w2).mono ?_
  rintro e w3 ⟨rfl,hb3⟩
  have HB3:=hid (HB2.out.trans (hb3.mono HB2.out.size));clear hb3
  go_wp2_with fail
  refine(C4.out w3).mono ?_
  rintro e w4 ⟨rfl,hb4⟩
  have HB4:=hid (HB3.out.trans (hb4.mono HB3.out.size));clear hb4
  go_wp2_with fail
  refine(C5.out w4 (HW.out.below HB4.out)).mono ?_
  rintro e w5 ⟨rfl,hb5⟩
  have HB5:=hid (HB4.out.trans (hb5.mono HB4.out.size));clear hb5
  go_wp2_with fail
  refine(C6.out w5 (HW.out.below HB5.out)).mono ?_
  rintro e w6 ⟨rfl,hb6⟩
  have HB6:=hid (HB5.out.trans (hb6.mono HB5.out.size));clear hb6
  go_wp2_with fail
  refine(C7.out w6 (HW.out.below HB6.out)).mono ?_
  rintro e w7 ⟨rfl,hb7⟩
  have HB7:=hid (HB6.out.trans (hb7.mono HB6.out.size));clear hb7
  go_wp2_with fail
  refine(C8.out w7 (HW.out.below HB7.out)).mono ?_
  rintro e w8 ⟨rfl,hb8⟩
  have HB8:=hid (HB7.out.trans (hb8.mono HB7.out.size));clear hb8
  go_wp2_with fail
  go_ret2
  exact⟨rfl,HB8.out⟩)
theorem zz3 (p q:Rat) (i j:Nat) (hi:0<i) (hj:0<j) (hij:i+j<300) (sp:sz p i) (sq:sz q j) (w:zA) (hw:Wd w):
 zC zF 214 #[St (numS p),St (numS q)] w λe w'=>e=.returned (.tuple #[St (numS (p+q)),.int .i64 0])/\zB w.heap.size w w':=by
 by_cases h:zbc p/\zbc q
 ·exact zxy p q (zc1 hi (by omega) sp) (zc1 hj (by omega) sq) h.1 h.2 w
 ·exact zz2 p q i j hi hj hij sp sq h w hw
theorem z28 {q:Rat} {k:Nat} (h:sz q k):sz (-q) k:=by
 refine⟨?_,h.2⟩
 show(-q.num).natAbs<10^k
 rw[Int.natAbs_neg];exact h.1
theorem zz4 (p q:Rat) (i j:Nat) (hi:0<i) (hj:0<j) (hij:i+j<300) (sp:sz p i) (sq:sz q j) (w:zA) (hw:Wd w):
 zC zF 165 #[St (numS p),St (numS q)] w λe w'=>e=.returned (.tuple #[St (numS (p-q)),.int .i64 0])/\zB w.heap.size w w':=by
 have hp:=zc1 hi (by omega) sp
 have hq:=zc1 hj (by omega) sq
 have c1:=λW hW=>zf7 p q hp hq W hW
 have c2:=λW=>zz1 q hq W
 have c3:=λW hW=>zz3 p (-q) i j hi hj hij sp (z28 sq) W hW
 rw[show p+ -q=p-q from(Rat.sub_eq_add_neg p q).symm] at c3
 have C1:=hid c1;have C2:=hid c2;have C3:=hid c3;have HW:=hid hw
 clear c1 c2 c3 hw hp hq sp sq
 generalize numS (p-q)=t at*
 generalize numS (-q)=nq at*
 generalize numS p=tp at*
 generalize numS q=tq at*
 go_enter Tryz.func165,Tryz.ntmps165
 go_wp2_with fail
 refine(C1.out w HW.out).mono ?_
 rintro e w1 ⟨rfl,hb1⟩
 have HB1:=hid hb1;clear hb1
 go_wp2_with fail
 refine(C2.out w1).mono ?_
 rintro e w2 ⟨rfl,hw2⟩
 have hw2':=hw2.symm;subst hw2'
 go_wp2_with fail
 refine(C3.out w1 (HW.out.below HB1.out)).mono ?_
 rintro e w3 ⟨rfl,hb3⟩
 have HB3:=hid (HB1.out.trans (hb3.mono HB1.out.size));clear hb3
 go_wp2_with fail
 go_ret2
 exact⟨rfl,HB3.out⟩
end
section
open Go.RowKit Go.Shelf Lib Str Limb Geo
attribute [local go_sem] Oper.semAt_some
theorem zz5 (a b c d:Int) (D:Nat) (hD:b*d=(D:Int)) (hD0:0<D) (ha:digs a<=300) (hb:digs b<=300) (hc:digs c<=300) (hd:digs d<=300) (hac:digs (a*c)<=300) (hbd:(zD D).length<=300) (w:zA) (hw:Wd w):
 zC zF 213 #[St (zE a),St (zE b),St (zE c),St (zE d)] w λe w'=>e=.returned (.tuple #[St (numS (Rat.divInt (a*c) (D:Int))),.int .i64 0])/\zB w.heap.size w w':=by
 have c1:=λW hW=>zff a c b d ha hc hb hd hac (by rw[hD];unfold digs;rw[Int.natAbs_natCast];exact hbd) W hW
 rw[hD,Str.zad] at c1
 have c2:=λW hW=>zn3 (a*c) D hD0 hac hbd W hW
 have C1:=hid c1;have C2:=hid c2;have HW:=hid hw
 clear c1 c2 hw ha hb hc hd hac hbd
 generalize numS (Rat.divInt (a*c) (D:Int))=t at*
 generalize zE (a*c)=x at*
 generalize zD D=y at*
 generalize zE a=sa at*
 generalize zE b=sb at*
 generalize zE c=sc at*
 generalize zE d=sd at*
 go_enter Tryz.func213,Tryz.ntmps213
 go_wp2_with fail
 refine(C1.out w HW.out).mono ?_
 rintro e w1 ⟨rfl,hb1⟩
 have HB1:=hid hb1;clear hb1
 go_wp2_with fail
 refine(C2.out w1 (HW.out.below HB1.out)).mono ?_
 rintro e w2 ⟨rfl,hb2⟩
 have HB2:=hid (HB1.out.trans (hb2.mono HB1.out.size));clear hb2
 go_wp2_with fail
 go_ret2
 exact⟨rfl,HB2.out⟩
theorem zx0 (p q:Rat) (hp:okN p) (hq:okN q) (np:zbc p) (nq:zbc q) (w:zA) (hw:Wd w):
 zC zF 164 #[St (numS p),St (numS q)] w λe w'=>e=.returned (.tuple #[St (numS (p*q)),.int .i64 0])/\zB w.heap.size w w':=by
 rw[zf1]
 have c0:=λW hW=>zf7 p q hp hq W hW
 have c1:=λW=>zef p hp np W
 have c2:=λW=>zef q hq nq W
 obtain⟨b1,b2⟩:=zjk np
 obtain⟨b3,b4⟩:=zjk nq
 have m1:(p.num*q.num).natAbs<=999999998000000001:=by
  rw[yK];exact Nat.mul_le_mul (show p.num.natAbs<=999999999 by omega) (show q.num.natAbs<=999999999 by omega)
 have m3:p.den*q.den<=999999998000000001:=Nat.mul_le_mul (show p.den<=999999999 by omega) (show q.den<=999999999 by omega)
 have m4:0<p.den*q.den:=Nat.mul_pos p.den_pos q.den_pos
 have qk:=λW=>zhg (p.num*q.num) (p.den*q.den) (by omega) m4 (by omega) W
 have e1:IntKind.i64.wrap (p.num*q.num)=p.num*q.num:=zI _ (by omega)
 have e4:IntKind.i64.wrap ((p.den:Int)*q.den)=((p.den*q.den:Nat):Int):=by rw[<-Int.natCast_mul];exact zI _ (by omega)
 obtain⟨D,hD⟩:∃D,D=p.den*q.den:=⟨_,rfl⟩
 rw[<-hD] at qk e4⊢
 have C0:=hid c0;have C1:=hid c1;have C2:=hid c2;have QK:=hid qk;have HW:=hid hw
 clear c0 c1 c2 qk np nq hp hq b1 b2 b3 b4 m1 m3 m4 hD hw
 generalize numS (Rat.divInt (p.num*q.num) (D:Int))=t at*
 generalize numS p=sp at*
 generalize numS q=sq at*
 generalize p.num=a at*
 generalize q.num=b at*
 generalize p.den=c at*
 generalize q.den=d at*
 go_enter Tryz.func164,Tryz.ntmps164
 go_wp2_with fail
 refine(C0.out w HW.out).mono ?_
 rintro e w0 ⟨rfl,hb0⟩
 have HB0:=hid hb0;clear hb0
 go_wp2_with fail
 refine(C1.out w0).mono ?_
 rintro e w1 ⟨rfl,hb1⟩
 have HB1:=hid (HB0.out.trans (hb1.mono HB0.out.size));clear hb1
 go_wp2_with fail
 refine(C2.out w1).mono ?_
 rintro e w2 ⟨rfl,hb2⟩
 have HB2:=hid (HB1.out.trans (hb2.mono HB1.out.size));clear hb2
 go_wp2_with fail
 refine(QK.out w2).mono ?_
 rintro e w3 ⟨rfl,hb3⟩
 have HB3:=hid (HB2.out.trans (hb3.mono HB2.out.size));clear hb3
 go_wp2_with fail
 go_ret2
 exact⟨rfl,HB3.out⟩
theorem zz6 (p q:Rat) (i j:Nat) (hi:0<i) (hj:0<j) (hij:i+j<=300) (sp:sz p i) (sq:sz q j) (hf:¬(zbc p/\zbc q)) (w:zA) (hw:Wd w):
 zC zF 164 #[St (numS p),St (numS q)] w λe w'=>e=.returned (.tuple #[St (numS (p*q)),.int .i64 0])/\zB w.heap.size w w':=by
 rw[zf1]
 have hp:=zc1 hi (by omega) sp
 have hq:=zc1 hj (by omega) sq
 have c0:=λW hW=>zf7 p q hp hq W hW
 have c1:=λW=>zfu p hp W
 have c2:=λW=>zfu q hq W
 have c3:=λW=>zee p hp W
 have c4:=λW=>zee q hq W
 have dg:∀k:Nat,digs (k:Int)=(zD k).length:=λk=>by unfold digs;rw[Int.natAbs_natCast]
 have x1:digs (p.num*q.num)<=i+j:=zfb (by omega) sp.1 sq.1
 have x3:(zD (p.den*q.den)).length<=i+j:=zn4 (by omega) sp.2 sq.2
 have c5:=λW hW=>zz5 p.num (p.den:Int) q.num (q.den:Int) (p.den*q.den) (by rw[Int.natCast_mul]) (Nat.mul_pos p.den_pos q.den_pos) hp.1 (by rw[dg];exact hp.2) hq.1 (by rw[dg];exact hq.2) (by omega) (by omega) W hW
 rw[Str.zad,Str.zad] at c5
 have hcase:(decide (zbc p)=false)\/(decide (zbc p)=true/\decide (zbc q)=false):=by
  by_cases h1:zbc p
  ·right;exact⟨decide_eq_true h1,decide_eq_false (λh2=>hf ⟨h1,h2⟩)⟩
  ·left;exact decide_eq_false h1
 have C0:=hid c0;have C1:=hid c1;have C2:=hid c2;have C3:=hid c3;have C4:=hid c4;have C5:=hid c5;have HW:=hid hw
 clear c0 c1 c2 c3 c4 c5 hw hp hq dg x1 x3 sp sq hf
 generalize numS (Rat.divInt (p.num*q.num) ((p.den*q.den:Nat):Int))=t at*
 generalize numS p=tp at*
 generalize numS q=tq at*
 generalize zE p.num=n1 at*
 generalize zE q.num=n2 at*
 generalize zD p.den=d1 at*
 generalize zD q.den=d2 at*
 generalize decide (zbc p)=b1 at*
 generalize decide (zbc q)=b2 at*
 go_enter Tryz.func164,Tryz.ntmps164
 go_wp2_with fail
 refine(C0.out w HW.out).mono ?_
 rintro e w0 ⟨rfl,hb0⟩
 have HB0:=hid hb0;clear hb0
 go_wp2_with fail
 refine(C1.out w0).mono ?_
 rintro e w1 ⟨⟨za,zb,rfl⟩,hb1⟩
 have HB1:=hid (HB0.out.trans (hb1.mono HB0.out.size));clear hb1
 go_wp2_with fail
 refine(C2.out w1).mono ?_
 rintro e w2 ⟨⟨zc,zd,rfl⟩,hb2⟩
 have HB2:=hid (HB1.out.trans (hb2.mono HB1.out.size));clear hb2
 rcases hcase with rfl|⟨rfl,rfl⟩<;>(
  go_wp2_with fail
  refine(C3.out w2).mono ?_
  rintro e w3 ⟨rfl,hb3⟩
  have HB3:=hid (HB2.out.trans (hb3.mono HB2.out.size));clear hb3
  go_wp2_with fail
  refine(C4.out w3).mono ?_
  rintro e w4 ⟨rfl,hb4⟩
  have HB4:=hid (HB3.out.trans (hb4.mono HB3.out.size));clear hb4
  go_wp2_with fail
  refine(C5.out w4 (HW.out.below HB4.out)).mono ?_
  rintro e w5 ⟨rfl,hb5⟩
  have HB5:=hid (HB4.out.trans (hb5.mono HB4.out.size));clear hb5
  go_wp2_with fail
  go_ret2
  exact⟨rfl,HB5.out⟩)
theorem zz7 (p q:Rat) (i j:Nat) (hi:0<i) (hj:0<j) (hij:i+j<=300) (sp:sz p i) (sq:sz q j) (w:zA) (hw:Wd w):
 zC zF 164 #[St (numS p),St (numS q)] w λe w'=>e=.returned (.tuple #[St (numS (p*q)),.int .i64 0])/\zB w.heap.size w w':=by
 by_cases h:zbc p/\zbc q
 ·exact zx0 p q (zc1 hi (by omega) sp) (zc1 hj (by omega) sq) h.1 h.2 w hw
 ·exact zz6 p q i j hi hj hij sp sq h w hw
theorem zqh (p q:Rat) (hp:okN p) (hq:okN q) (np:zbc p) (nq:zbc q) (w:zA) (hw:Wd w):
 zC zF 163 #[St (numS p),St (numS q)] w λe w'=>e=.returned (.tuple #[.int .i64 (cmpR p q),.int .i64 0])/\zB w.heap.size w w':=by
 rw[<-zim]
 have c0:=λW hW=>zf7 p q hp hq W hW
 have c1:=λW=>zef p hp np W
 have c2:=λW=>zef q hq nq W
 obtain⟨b1,b2⟩:=zjk np
 obtain⟨b3,b4⟩:=zjk nq
 have m1:(p.num*q.den).natAbs<=999999998000000001:=by
  rw[yK,Int.natAbs_natCast];exact Nat.mul_le_mul (show p.num.natAbs<=999999999 by omega) (show q.den<=999999999 by omega)
 have m2:(q.num*p.den).natAbs<=999999998000000001:=by
  rw[yK,Int.natAbs_natCast];exact Nat.mul_le_mul (show q.num.natAbs<=999999999 by omega) (show p.den<=999999999 by omega)
 have e1:IntKind.i64.wrap (p.num*q.den)=p.num*q.den:=zI _ (by omega)
 have e2:IntKind.i64.wrap (q.num*p.den)=q.num*p.den:=zI _ (by omega)
 have CZ:=hid (show(p.num*q.den<q.num*p.den->cmpZ (p.num*q.den) (q.num*p.den)= -1)/\(q.num*p.den<p.num*q.den->cmpZ (p.num*q.den) (q.num*p.den)=1)/\(p.num*q.den=q.num*p.den->cmpZ (p.num*q.den) (q.num*p.den)=0) by
  unfold cmpZ
  refine⟨λh=>?_,λh=>?_,λh=>?_⟩
  ·simp[h]
  ·have:¬p.num*q.den<q.num*p.den:=by omega
   simp[this,h]
  ·rw[h];simp)
 have C0:=hid c0;have C1:=hid c1;have C2:=hid c2;have HW:=hid hw
 clear c0 c1 c2 np nq hp hq b1 b2 b3 b4 m1 m2 hw
 generalize cmpZ (p.num*q.den) (q.num*p.den)=t at*
 generalize numS p=sp at*
 generalize numS q=sq at*
 generalize p.num=a at*
 generalize q.num=b at*
 generalize p.den=c at*
 generalize q.den=d at*
 go_enter Tryz.func163,Tryz.ntmps163
 go_wp2_with fail
 refine(C0.out w HW.out).mono ?_
 rintro e w0 ⟨rfl,hb0⟩
 have HB0:=hid hb0;clear hb0
 go_wp2_with fail
 refine(C1.out w0).mono ?_
 rintro e w1 ⟨rfl,hb1⟩
 have HB1:=hid (HB0.out.trans (hb1.mono HB0.out.size));clear hb1
 go_wp2_with fail
 refine(C2.out w1).mono ?_
 rintro e w2 ⟨rfl,hb2⟩
 have HB2:=hid (HB1.out.trans (hb2.mono HB1.out.size));clear hb2
 rcases Int.lt_trichotomy (a*d) (b*c) with h|h|h
 ·obtain rfl:=CZ.out.1 h
  go_wp2_with fail
  go_ret2
  exact⟨rfl,HB2.out⟩
 ·obtain rfl:=CZ.out.2.2 h
  have h1:¬a*d<b*c:=by omega
  have h2:¬b*c<a*d:=by omega
  clear h
  go_wp2_with fail
  go_ret2
  exact⟨rfl,HB2.out⟩
 ·obtain rfl:=CZ.out.2.1 h
  have h1:¬a*d<b*c:=by omega
  go_wp2_with fail
  go_ret2
  exact⟨rfl,HB2.out⟩
theorem zr7 (p q:Rat) (i j:Nat) (hi:0<i) (hj:0<j) (hij:i+j<=300) (sp:sz p i) (sq:sz q j) (hf:¬(zbc p/\zbc q)) (w:zA) (hw:Wd w):
 zC zF 163 #[St (numS p),St (numS q)] w λe w'=>e=.returned (.tuple #[.int .i64 (cmpR p q),.int .i64 0])/\zB w.heap.size w w':=by
 rw[<-zim]
 have hp:=zc1 hi (by omega) sp
 have hq:=zc1 hj (by omega) sq
 have c0:=λW hW=>zf7 p q hp hq W hW
 have c1:=λW=>zfu p hp W
 have c2:=λW=>zfu q hq W
 have c3:=λW=>zee p hp W
 have c4:=λW=>zee q hq W
 have dg:∀k:Nat,digs (k:Int)=(zD k).length:=λk=>by unfold digs;rw[Int.natAbs_natCast]
 have x1:digs (p.num*q.den)<=i+j:=zfb (by omega) sp.1 (by rw[Int.natAbs_natCast];exact sq.2)
 have x3:digs (q.num*p.den)<=i+j:=by rw[Nat.add_comm];exact zfb (by omega) sq.1 (by rw[Int.natAbs_natCast];exact sp.2)
 have c5:=λW hW=>zff p.num (q.den:Int) q.num (p.den:Int) hp.1 (by rw[dg];exact hq.2) hq.1 (by rw[dg];exact hp.2) (by omega) (by omega) W hW
 have c6:=λW=>zr3 (p.num*q.den) (q.num*p.den) (by omega) (by omega) W
 rw[Str.zad,Str.zad] at c5
 have hcase:(decide (zbc p)=false)\/(decide (zbc p)=true/\decide (zbc q)=false):=by
  by_cases h1:zbc p
  ·right;exact⟨decide_eq_true h1,decide_eq_false (λh2=>hf ⟨h1,h2⟩)⟩
  ·left;exact decide_eq_false h1
 have C0:=hid c0;have C1:=hid c1;have C2:=hid c2;have C3:=hid c3;have C4:=hid c4;have C5:=hid c5;have C6:=hid c6;have HW:=hid hw
 clear c0 c1 c2 c3 c4 c5 c6 hw hp hq dg x1 x3 sp sq hf
 generalize cmpZ (p.num*q.den) (q.num*p.den)=t at*
 generalize zE (p.num*q.den)=m1 at*
 generalize zE (q.num*p.den)=m2 at*
 generalize numS p=tp at*
 generalize numS q=tq at*
 generalize zE p.num=n1 at*
 generalize zE q.num=n2 at*
 generalize zD p.den=d1 at*
 generalize zD q.den=d2 at*
 generalize decide (zbc p)=b1 at*
 generalize decide (zbc q)=b2 at*
 go_enter Tryz.func163,Tryz.ntmps163
 go_wp2_with fail
 refine(C0.out w HW.out).mono ?_
 rintro e w0 ⟨rfl,hb0⟩
 have HB0:=hid hb0;clear hb0
 go_wp2_with fail
 refine(C1.out w0).mono ?_
 rintro e w1 ⟨⟨za,zb,rfl⟩,hb1⟩
 have HB1:=hid (HB0.out.trans (hb1.mono HB0.out.size));clear hb1
 go_wp2_with fail
 refine(C2.out w1).mono ?_
 rintro e w2 ⟨⟨zc,zd,rfl⟩,hb2⟩
 have HB2:=hid (HB1.out.trans (hb2.mono HB1.out.size));clear hb2
 rcases hcase with rfl|⟨rfl,rfl⟩<;>(
  go_wp2_with fail
  refine(C3.out w2).mono ?_
  rintro e w3 ⟨rfl,hb3⟩
  have HB3:=hid (HB2.out.trans (hb3.mono HB2.out.size));clear hb3
  go_wp2_with fail
  refine(C4.out w3).mono ?_
  rintro e w4 ⟨rfl,hb4⟩
  have HB4:=hid (HB3.out.trans (hb4.mono HB3.out.size));clear hb4
  go_wp2_with fail
  refine(C5.out w4 (HW.out.below HB4.out)).mono ?_
  rintro e w5 ⟨rfl,hb5⟩
  have HB5:=hid (HB4.out.trans (hb5.mono HB4.out.size));clear hb5
  go_wp2_with fail
  refine(C6.out w5).mono ?_
  rintro e w6 ⟨rfl,hb6⟩
  have HB6:=hid (HB5.out.trans (hb6.mono HB5.out.size));clear hb6
  go_wp2_with fail
  go_ret2
  exact⟨rfl,HB6.out⟩)
theorem zr8 (p q:Rat) (i j:Nat) (hi:0<i) (hj:0<j) (hij:i+j<=300) (sp:sz p i) (sq:sz q j) (w:zA) (hw:Wd w):
 zC zF 163 #[St (numS p),St (numS q)] w λe w'=>e=.returned (.tuple #[.int .i64 (cmpR p q),.int .i64 0])/\zB w.heap.size w w':=by
 by_cases h:zbc p/\zbc q
 ·exact zqh p q (zc1 hi (by omega) sp) (zc1 hj (by omega) sq) h.1 h.2 w hw
 ·exact zr7 p q i j hi hj hij sp sq h w hw
theorem zlt (p q:Rat) (i j:Nat) (hi:0<i) (hj:0<j) (hij:i+j<300) (sp:sz p i) (sq:sz q j) (w:zA) (hw:Wd w):
 zC zF 120 #[St (numS p),St (numS q)] w λe w'=>e=.returned (St (numS (p-q)))/\zB w.heap.size w w':=by
 have hc:=zz4 p q i j hi hj hij sp sq w hw
 generalize numS (p-q)=r at hc⊢
 generalize numS p=x at hc⊢
 generalize numS q=y at hc⊢
 have HC:=hid hc;clear hc hi hj hij sp sq
 go_enter Tryz.func120,Tryz.ntmps120
 go_wp2_with fail
 refine HC.out.mono ?_
 rintro e w1 ⟨rfl,hB⟩
 go_wp2_with fail
 go_ret
 exact⟨rfl,hB⟩
theorem zud (p q:Rat) (i j:Nat) (hi:0<i) (hj:0<j) (hij:i+j<=300) (sp:sz p i) (sq:sz q j) (w:zA) (hw:Wd w):
 zC zF 119 #[St (numS p),St (numS q)] w λe w'=>e=.returned (St (numS (p*q)))/\zB w.heap.size w w':=by
 have hc:=zz7 p q i j hi hj hij sp sq w hw
 generalize numS (p*q)=r at hc⊢
 generalize numS p=x at hc⊢
 generalize numS q=y at hc⊢
 have HC:=hid hc;clear hc hi hj hij sp sq
 go_enter Tryz.func119,Tryz.ntmps119
 go_wp2_with fail
 refine HC.out.mono ?_
 rintro e w1 ⟨rfl,hB⟩
 go_wp2_with fail
 go_ret
 exact⟨rfl,hB⟩
theorem zjl (p q:Rat) (i j:Nat) (hi:0<i) (hj:0<j) (hij:i+j<=300) (sp:sz p i) (sq:sz q j) (w:zA) (hw:Wd w):
 zC zF 118 #[St (numS p),St (numS q)] w λe w'=>e=.returned (.int .i64 (cmpR p q))/\zB w.heap.size w w':=by
 have hc:=zr8 p q i j hi hj hij sp sq w hw
 generalize cmpR p q=r at hc⊢
 generalize numS p=x at hc⊢
 generalize numS q=y at hc⊢
 have HC:=hid hc;clear hc hi hj hij sp sq
 go_enter Tryz.func118,Tryz.ntmps118
 go_wp2_with fail
 refine HC.out.mono ?_
 rintro e w1 ⟨rfl,hB⟩
 go_wp2_with fail
 go_ret
 exact⟨rfl,hB⟩
theorem zvm (x1 y1 x2 y2 x3 y3 u1 u2 v1 v2 u v:List UInt8) (n:Int)
 (S1:Hid (∀W:zA,Wd W->zC zF 120 #[St x2,St x1] W λe w'=>e=.returned (St u1)/\zB W.heap.size W w'))
 (S2:Hid (∀W:zA,Wd W->zC zF 120 #[St y3,St y1] W λe w'=>e=.returned (St u2)/\zB W.heap.size W w'))
 (M1:Hid (∀W:zA,Wd W->zC zF 119 #[St u1,St u2] W λe w'=>e=.returned (St u)/\zB W.heap.size W w'))
 (S3:Hid (∀W:zA,Wd W->zC zF 120 #[St y2,St y1] W λe w'=>e=.returned (St v1)/\zB W.heap.size W w'))
 (S4:Hid (∀W:zA,Wd W->zC zF 120 #[St x3,St x1] W λe w'=>e=.returned (St v2)/\zB W.heap.size W w'))
 (M2:Hid (∀W:zA,Wd W->zC zF 119 #[St v1,St v2] W λe w'=>e=.returned (St v)/\zB W.heap.size W w'))
 (CM:Hid (∀W:zA,Wd W->zC zF 118 #[St u,St v] W λe w'=>e=.returned (.int .i64 n)/\zB W.heap.size W w'))
 (w:zA) (HW:Hid (Wd w)):
 zC zF 78 #[.agg #[St x1,St y1],.agg #[St x2,St y2],.agg #[St x3,St y3]] w λe w'=>e=.returned (.int .i64 n)/\zB w.heap.size w w':=by
 have hinit:TurnS w x1 y1 x2 y2 x3 y3 (((w.alloc (.cells #[St x1,St y1] 27)).alloc (.cells #[St x2,St y2] 27)).alloc (.cells #[St x3,St y3] 27)):=by
  have e1:=zG w (.cells #[St x1,St y1] 27 (0,0))
  have e2:=zG (w.alloc (.cells #[St x1,St y1] 27)) (.cells #[St x2,St y2] 27 (0,0))
  have e3:=zG ((w.alloc (.cells #[St x1,St y1] 27)).alloc (.cells #[St x2,St y2] 27)) (.cells #[St x3,St y3] 27 (0,0))
  simp only[zH] at e2 e3
  refine⟨(((zM _ w).alloc (zN _) _).alloc (by simp) _).alloc (by simp;omega) _,by simp,?_,?_,e3⟩
  ·exact(Below.heap_alloc _ _ _ (by simp only[zH];omega)).trans ((Below.heap_alloc _ _ _ (by simp only[zH];omega)).trans e1)
  ·exact(Below.heap_alloc _ _ _ (by simp only[zH];omega)).trans e2
 have HI:=hid hinit;clear hinit
 go_enter Tryz.func78,Tryz.ntmps78
 go_wp2_with fail
 refine zbl (λ_ W=>TurnS w x1 y1 x2 y2 x3 y3 W) (by kernel_rfl) (by kernel_rfl) (by have h:=HI.out;exact⟨h.bel.drew,h.lt,h.ha,h.hb,h.hc⟩) ?_
 refine zab (v:=.pointer (some ⟨w.heap.size+1,0,none⟩)) (by rfl) (λf W' h=>h) (λf W' hf h=>by go_simp) ?_
 try simp only[zzQ]
 refine zab (v:=St x2) (by rfl) (λf W' h=>h) (λf W' hf h=>by have h0:=h.b0;go_simp) ?_
 try simp only[zzQ]
 refine zab (v:=.pointer (some ⟨w.heap.size,0,none⟩)) (by rfl) (λf W' h=>h) (λf W' hf h=>by go_simp) ?_
 try simp only[zzQ]
 refine zab (v:=St x1) (by rfl) (λf W' h=>h) (λf W' hf h=>by have h0:=h.a0;go_simp) ?_
 try simp only[zzQ]
 refine zar (St u1) (by rfl) (λf W' hf h C' hC'=>by
  go_simp
  refine(S1.out _ (HW.out.below h.bel)).mono ?_
  rintro e w' ⟨rfl,hb⟩
  exact⟨rfl,hC' _ (h.next hb)⟩) ?_
 try simp only[zzQ]
 refine zab (v:=.pointer (some ⟨w.heap.size+1+1,1,none⟩)) (by rfl) (λf W' h=>h) (λf W' hf h=>by go_simp) ?_
 try simp only[zzQ]
 refine zab (v:=St y3) (by rfl) (λf W' h=>h) (λf W' hf h=>by have h0:=h.c1;go_simp) ?_
 try simp only[zzQ]
 refine zab (v:=.pointer (some ⟨w.heap.size,1,none⟩)) (by rfl) (λf W' h=>h) (λf W' hf h=>by go_simp) ?_
 try simp only[zzQ]
 refine zab (v:=St y1) (by rfl) (λf W' h=>h) (λf W' hf h=>by have h0:=h.a1;go_simp) ?_
 try simp only[zzQ]
 refine zar (St u2) (by rfl) (λf W' hf h C' hC'=>by
  go_simp
  refine(S2.out _ (HW.out.below h.bel)).mono ?_
  rintro e w' ⟨rfl,hb⟩
  exact⟨rfl,hC' _ (h.next hb)⟩) ?_
 try simp only[zzQ]
 refine zar (St u) (by rfl) (λf W' hf h C' hC'=>by
  go_simp
  refine(M1.out _ (HW.out.below h.bel)).mono ?_
  rintro e w' ⟨rfl,hb⟩
  exact⟨rfl,hC' _ (h.next hb)⟩) ?_
 try simp only[zzQ]
 refine zab (v:=.pointer (some ⟨w.heap.size+1,1,none⟩)) (by rfl) (λf W' h=>h) (λf W' hf h=>by go_simp) ?_
 try simp only[zzQ]
 refine zab (v:=St y2) (by rfl) (λf W' h=>h) (λf W' hf h=>by have h0:=h.b1;go_simp) ?_
 try simp only[zzQ]
 refine zab (v:=.pointer (some ⟨w.heap.size,1,none⟩)) (by rfl) (λf W' h=>h) (λf W' hf h=>by go_simp) ?_
 try simp only[zzQ]
 refine zab (v:=St y1) (by rfl) (λf W' h=>h) (λf W' hf h=>by have h0:=h.a1;go_simp) ?_
 try simp only[zzQ]
 refine zar (St v1) (by rfl) (λf W' hf h C' hC'=>by
  go_simp
  refine(S3.out _ (HW.out.below h.bel)).mono ?_
  rintro e w' ⟨rfl,hb⟩
  exact⟨rfl,hC' _ (h.next hb)⟩) ?_
 try simp only[zzQ]
 refine zab (v:=.pointer (some ⟨w.heap.size+1+1,0,none⟩)) (by rfl) (λf W' h=>h) (λf W' hf h=>by go_simp) ?_
 try simp only[zzQ]
 refine zab (v:=St x3) (by rfl) (λf W' h=>h) (λf W' hf h=>by have h0:=h.c0;go_simp) ?_
 try simp only[zzQ]
 refine zab (v:=.pointer (some ⟨w.heap.size,0,none⟩)) (by rfl) (λf W' h=>h) (λf W' hf h=>by go_simp) ?_
 try simp only[zzQ]
 refine zab (v:=St x1) (by rfl) (λf W' h=>h) (λf W' hf h=>by have h0:=h.a0;go_simp) ?_
 try simp only[zzQ]
 refine zar (St v2) (by rfl) (λf W' hf h C' hC'=>by
  go_simp
  refine(S4.out _ (HW.out.below h.bel)).mono ?_
  rintro e w' ⟨rfl,hb⟩
  exact⟨rfl,hC' _ (h.next hb)⟩) ?_
 try simp only[zzQ]
 refine zar (St v) (by rfl) (λf W' hf h C' hC'=>by
  go_simp
  refine(M2.out _ (HW.out.below h.bel)).mono ?_
  rintro e w' ⟨rfl,hb⟩
  exact⟨rfl,hC' _ (h.next hb)⟩) ?_
 try simp only[zzQ]
 refine zar (.int .i64 n) (by rfl) (λf W' hf h C' hC'=>by
  go_simp
  refine(CM.out _ (HW.out.below h.bel)).mono ?_
  rintro e w' ⟨rfl,hb⟩
  exact⟨rfl,hC' _ (h.next hb)⟩) ?_
 try simp only[zzQ]
 refine zab (v:=.int .i64 n) (by rfl) (λf W' h=>h) (λf W' hf h=>by go_simp) ?_
 try simp only[zzQ]
 refine zck λf W' hf h=>?_
 have hB:=h.bel
 clear hf h
 go_wp2_with fail
 go_ret
 exact⟨rfl,hB⟩
theorem zh8 (a b c:Pt) (k:Nat) (hk:0<k) (hk2:8*k+4<=300) (ha:szP a k) (hb:szP b k) (hc:szP c k) (w:zA) (hw:Wd w):
 zC zF 78 #[ptV a,ptV b,ptV c] w λe w'=>e=.returned (.int .i64 (turn a b c))/\zB w.heap.size w w':=by
 have s1:=zb0 hb.1 ha.1
 have s2:=zb0 hc.2 ha.2
 have s3:=zb0 hb.2 ha.2
 have s4:=zb0 hc.1 ha.1
 have m1:=zca s1 s2
 have m2:=zca s3 s4
 exact zvm _ _ _ _ _ _ _ _ _ _ _ _ _ (hid λW hW=>zlt b.x a.x k k hk hk (by omega) hb.1 ha.1 W hW) (hid λW hW=>zlt c.y a.y k k hk hk (by omega) hc.2 ha.2 W hW)
  (hid λW hW=>zud _ _ _ _ (by omega) (by omega) (by omega) s1 s2 W hW) (hid λW hW=>zlt b.y a.y k k hk hk (by omega) hb.2 ha.2 W hW) (hid λW hW=>zlt c.x a.x k k hk hk (by omega) hc.1 ha.1 W hW)
  (hid λW hW=>zud _ _ _ _ (by omega) (by omega) (by omega) s3 s4 W hW) (hid λW hW=>zjl _ _ _ _ (by omega) (by omega) (by omega) m1 m2 W hW) w (hid hw)
theorem zz8 (x1 y1 x2 y2 x3 y3:List UInt8) (m1 m2 m3 m4 m n:Int) (c1 c2:Bool) (h1:decide (m<=0)=c1) (h2:decide (n<=0)=c2)
 (hm:Hid (IntKind.i64.wrap (m1*m2)=m)) (hn:Hid (IntKind.i64.wrap (m3*m4)=n))
 (S1:Hid (∀W:zA,Wd W->zC zF 118 #[St x3,St x1] W λe w'=>e=.returned (.int .i64 m1)/\zB W.heap.size W w'))
 (S2:Hid (∀W:zA,Wd W->zC zF 118 #[St x3,St x2] W λe w'=>e=.returned (.int .i64 m2)/\zB W.heap.size W w'))
 (S3:Hid (∀W:zA,Wd W->zC zF 118 #[St y3,St y1] W λe w'=>e=.returned (.int .i64 m3)/\zB W.heap.size W w'))
 (S4:Hid (∀W:zA,Wd W->zC zF 118 #[St y3,St y2] W λe w'=>e=.returned (.int .i64 m4)/\zB W.heap.size W w'))
 (w:zA) (HW:Hid (Wd w)):
 zC zF 79 #[.agg #[St x1,St y1],.agg #[St x2,St y2],.agg #[St x3,St y3]] w λe w'=>e=.returned (.bool (c1&&c2))/\zB w.heap.size w w':=by
 have hinit:TurnS w x1 y1 x2 y2 x3 y3 (((w.alloc (.cells #[St x1,St y1] 27)).alloc (.cells #[St x2,St y2] 27)).alloc (.cells #[St x3,St y3] 27)):=by
  have e1:=zG w (.cells #[St x1,St y1] 27 (0,0))
  have e2:=zG (w.alloc (.cells #[St x1,St y1] 27)) (.cells #[St x2,St y2] 27 (0,0))
  have e3:=zG ((w.alloc (.cells #[St x1,St y1] 27)).alloc (.cells #[St x2,St y2] 27)) (.cells #[St x3,St y3] 27 (0,0))
  simp only[zH] at e2 e3
  refine⟨(((zM _ w).alloc (zN _) _).alloc (by simp) _).alloc (by simp;omega) _,by simp,?_,?_,e3⟩
  ·exact(Below.heap_alloc _ _ _ (by simp only[zH];omega)).trans ((Below.heap_alloc _ _ _ (by simp only[zH];omega)).trans e1)
  ·exact(Below.heap_alloc _ _ _ (by simp only[zH];omega)).trans e2
 have HI:=hid hinit;clear hinit
 go_enter Tryz.func79,Tryz.ntmps79
 go_wp2_with fail
 refine zbl (λ_ W=>TurnS w x1 y1 x2 y2 x3 y3 W) (by kernel_rfl) (by kernel_rfl) (by have h:=HI.out;exact⟨h.bel.drew,h.lt,h.ha,h.hb,h.hc⟩) ?_
 refine zab (v:=.pointer (some ⟨w.heap.size+1+1,0,none⟩)) (by rfl) (λf W' h=>h) (λf W' hf h=>by go_simp) ?_
 try simp only[zzQ]
 refine zab (v:=St x3) (by rfl) (λf W' h=>h) (λf W' hf h=>by have h0:=h.c0;go_simp) ?_
 try simp only[zzQ]
 refine zab (v:=.pointer (some ⟨w.heap.size,0,none⟩)) (by rfl) (λf W' h=>h) (λf W' hf h=>by go_simp) ?_
 try simp only[zzQ]
 refine zab (v:=St x1) (by rfl) (λf W' h=>h) (λf W' hf h=>by have h0:=h.a0;go_simp) ?_
 try simp only[zzQ]
 refine zar (.int .i64 m1) (by rfl) (λf W' hf h C' hC'=>by
  go_simp
  refine(S1.out _ (HW.out.below h.bel)).mono ?_
  rintro e w' ⟨rfl,hb⟩
  exact⟨rfl,hC' _ (h.next hb)⟩) ?_
 try simp only[zzQ]
 refine zab (v:=.pointer (some ⟨w.heap.size+1+1,0,none⟩)) (by rfl) (λf W' h=>h) (λf W' hf h=>by go_simp) ?_
 try simp only[zzQ]
 refine zab (v:=St x3) (by rfl) (λf W' h=>h) (λf W' hf h=>by have h0:=h.c0;go_simp) ?_
 try simp only[zzQ]
 refine zab (v:=.pointer (some ⟨w.heap.size+1,0,none⟩)) (by rfl) (λf W' h=>h) (λf W' hf h=>by go_simp) ?_
 try simp only[zzQ]
 refine zab (v:=St x2) (by rfl) (λf W' h=>h) (λf W' hf h=>by have h0:=h.b0;go_simp) ?_
 try simp only[zzQ]
 refine zar (.int .i64 m2) (by rfl) (λf W' hf h C' hC'=>by
  go_simp
  refine(S2.out _ (HW.out.below h.bel)).mono ?_
  rintro e w' ⟨rfl,hb⟩
  exact⟨rfl,hC' _ (h.next hb)⟩) ?_
 try simp only[zzQ]
 refine zab (v:=.int .i64 m) (by rfl) (λf W' h=>h) (λf W' hf h=>by have h0:=hm.out;go_simp) ?_
 try simp only[zzQ]
 refine zab (v:=.pointer (some ⟨w.heap.size+1+1,1,none⟩)) (by rfl) (λf W' h=>h) (λf W' hf h=>by go_simp) ?_
 try simp only[zzQ]
 refine zab (v:=St y3) (by rfl) (λf W' h=>h) (λf W' hf h=>by have h0:=h.c1;go_simp) ?_
 try simp only[zzQ]
 refine zab (v:=.pointer (some ⟨w.heap.size,1,none⟩)) (by rfl) (λf W' h=>h) (λf W' hf h=>by go_simp) ?_
 try simp only[zzQ]
 refine zab (v:=St y1) (by rfl) (λf W' h=>h) (λf W' hf h=>by have h0:=h.a1;go_simp) ?_
 try simp only[zzQ]
 refine zar (.int .i64 m3) (by rfl) (λf W' hf h C' hC'=>by
  go_simp
  refine(S3.out _ (HW.out.below h.bel)).mono ?_
  rintro e w' ⟨rfl,hb⟩
  exact⟨rfl,hC' _ (h.next hb)⟩) ?_
 try simp only[zzQ]
 refine zab (v:=.pointer (some ⟨w.heap.size+1+1,1,none⟩)) (by rfl) (λf W' h=>h) (λf W' hf h=>by go_simp) ?_
 try simp only[zzQ]
 refine zab (v:=St y3) (by rfl) (λf W' h=>h) (λf W' hf h=>by have h0:=h.c1;go_simp) ?_
 try simp only[zzQ]
 refine zab (v:=.pointer (some ⟨w.heap.size+1,1,none⟩)) (by rfl) (λf W' h=>h) (λf W' hf h=>by go_simp) ?_
 try simp only[zzQ]
 refine zab (v:=St y2) (by rfl) (λf W' h=>h) (λf W' hf h=>by have h0:=h.b1;go_simp) ?_
 try simp only[zzQ]
 refine zar (.int .i64 m4) (by rfl) (λf W' hf h C' hC'=>by
  go_simp
  refine(S4.out _ (HW.out.below h.bel)).mono ?_
  rintro e w' ⟨rfl,hb⟩
  exact⟨rfl,hC' _ (h.next hb)⟩) ?_
 try simp only[zzQ]
 refine zab (v:=.int .i64 n) (by rfl) (λf W' h=>h) (λf W' hf h=>by have h0:=hn.out;go_simp) ?_
 try simp only[zzQ]
 refine zab (v:=.int .i64 m) (by rfl) (λf W' h=>h) (λf W' hf h=>by go_simp) ?_
 try simp only[zzQ]
 refine zab (v:=.int .i64 n) (by rfl) (λf W' h=>h) (λf W' hf h=>by go_simp) ?_
 try simp only[zzQ]
 refine zck λf W' hf h=>?_
 have hB:=h.bel
 clear hf h
 cases c1<;>(
  go_wp2_with fail
  go_ret
  exact⟨by simp,hB⟩)
theorem zlg (a b c d:Rat):IntKind.i64.wrap (cmpR a b*cmpR c d)=cmpR a b*cmpR c d:=by
 have h1:=zaw a b
 have h2:=zaw c d
 have: -1<=cmpR a b*cmpR c d/\cmpR a b*cmpR c d<=1:=by
  rcases h1 with⟨_,h⟩|⟨_,h⟩|⟨_,h⟩<;>rcases h2 with⟨_,k⟩|⟨_,k⟩|⟨_,k⟩<;>rw[h,k]<;>decide
 exact zI _ (by omega)
def onB (a b p:Pt):Bool:=decide (cmpR p.x a.x*cmpR p.x b.x<=0)&&decide (cmpR p.y a.y*cmpR p.y b.y<=0)
theorem zjm (a b c:Pt) (k:Nat) (hk:0<k) (hk2:8*k+4<=300) (ha:szP a k) (hb:szP b k) (hc:szP c k) (w:zA) (hw:Wd w):
 zC zF 79 #[ptV a,ptV b,ptV c] w λe w'=>e=.returned (.bool (onB a b c))/\zB w.heap.size w w':=
 zz8 _ _ _ _ _ _ _ _ _ _ _ _ _ _ rfl rfl (hid (zlg _ _ _ _)) (hid (zlg _ _ _ _)) (hid λW hW=>zjl _ _ k k hk hk (by omega) hc.1 ha.1 W hW) (hid λW hW=>zjl _ _ k k hk hk (by omega) hc.1 hb.1 W hW)
  (hid λW hW=>zjl _ _ k k hk hk (by omega) hc.2 ha.2 W hW) (hid λW hW=>zjl _ _ k k hk hk (by omega) hc.2 hb.2 W hW) w (hid hw)
theorem zpi (q:Rat) (h:sz q 36) (w:zA) (hw:Wd w):
 zC zF 77 #[St (numS q)] w λe w'=>e=.returned (.bool true)/\zB w.heap.size w w':=by
 have hq:okN q:=zc1 (by omega) (by omega) h
 have c1:=zvl q hq w hw
 obtain⟨d1,d2⟩:=zok (by omega) h
 obtain⟨sn,hsn⟩:∃s:ByteArray,s=⟨(zE q.num).toArray⟩:=⟨_,rfl⟩
 obtain⟨sd,hsd⟩:∃s:ByteArray,s=⟨(zD q.den).toArray⟩:=⟨_,rfl⟩
 obtain⟨p1,p2,p3⟩:=zdn q.num sn hsn
 have l2:sd.size<=36:=by rw[hsd];exact d2
 have l2':(sd.size:Int)<=36:=by omega
 have c1':zC zF 117 #[St (numS q)] w λe w'=>e=.returned (.tuple #[.string sn,.string sd,.int .i64 0])/\zB w.heap.size w w':=by rw[hsn,hsd];exact c1
 have C1:=hid c1'
 by_cases hm:q.num<0
 ·rw[decide_eq_true hm] at p2
  have hx:=p3 hm
  obtain⟨t,ht⟩:∃t:ByteArray,t=⟨(zD q.num.natAbs).toArray⟩:=⟨_,rfl⟩
  rw[<-ht] at hx
  have l1:(t.size:Int)<=36:=by rw[ht];have:(zD q.num.natAbs).length<=36:=d1;show((zD q.num.natAbs).length:Int)<=36;omega
  have p1':(0:Int)<(sn.size:Int):=by omega
  have p4:(1:Int)<=(sn.size:Int):=by omega
  clear c1 c1' ht hsn hsd p3 hm d1 d2 h hq hw l2
  generalize numS q=x at*
  go_enter Tryz.func77,Tryz.ntmps77
  go_wp2_with fail
  refine C1.out.mono ?_
  rintro e w1 ⟨rfl,hb1⟩
  have HB1:=hid hb1;clear hb1
  go_wp2_with fail
  go_ret
  exact⟨rfl,HB1.out⟩
 ·rw[decide_eq_false hm] at p2
  have l1:(sn.size:Int)<=36:=by
   rw[hsn]
   have e:zE q.num=zD q.num.natAbs:=by
    rcases zbg q.num with⟨k,e⟩|⟨k,e⟩
    ·exact e
    ·omega
   have:(zE q.num).length<=36:=by rw[e];exact d1
   show((zE q.num).length:Int)<=36
   omega
  have p1':(0:Int)<(sn.size:Int):=by omega
  clear c1 c1' hsn hsd p3 hm d1 d2 h hq hw l2
  generalize numS q=x at*
  go_enter Tryz.func77,Tryz.ntmps77
  go_wp2_with fail
  refine C1.out.mono ?_
  rintro e w1 ⟨rfl,hb1⟩
  have HB1:=hid hb1;clear hb1
  go_wp2_with fail
  go_ret
  exact⟨rfl,HB1.out⟩
theorem zz9 (x y:List UInt8)
 (CX:Hid (∀W:zA,Wd W->zC zF 38 #[St x] W λe w'=>e=.returned (.int .i64 0)/\zB W.heap.size W w'))
 (CY:Hid (∀W:zA,Wd W->zC zF 38 #[St y] W λe w'=>e=.returned (.int .i64 0)/\zB W.heap.size W w'))
 (NX:Hid (∀W:zA,Wd W->zC zF 77 #[St x] W λe w'=>e=.returned (.bool true)/\zB W.heap.size W w'))
 (NY:Hid (∀W:zA,Wd W->zC zF 77 #[St y] W λe w'=>e=.returned (.bool true)/\zB W.heap.size W w'))
 (w:zA) (HW:Hid (Wd w)):
 zC zF 39 #[.agg #[St x,St y]] w λe w'=>e=.returned (.int .i64 0)/\zB w.heap.size w w':=by
 have hinit:PtS w x y (w.alloc (.cells #[St x,St y] 27)):=⟨(zM _ w).alloc (zN _) _,by simp,zG w _⟩
 obtain⟨W1,hW1⟩:∃W1,W1=w.alloc (.cells #[St x,St y] 27):=⟨_,rfl⟩
 rw[<-hW1] at hinit
 have i0:=hinit.c0;have i1:=hinit.c1
 rw[hW1] at i0 i1
 have HI:=hid hinit;clear hinit
 have HW1:=hid hW1;clear hW1
 go_enter Tryz.func39,Tryz.ntmps39
 go_wp2_with fail
 rw[<-HW1.out]
 clear i0 i1
 refine(CX.out _ (HW.out.below HI.out.bel)).mono ?_
 rintro e W2 ⟨rfl,hb2⟩
 have H2:=hid (HI.out.next hb2);clear HI hb2
 have i1:=H2.out.c1
 go_wp2_with fail
 clear i1
 refine(CY.out _ (HW.out.below H2.out.bel)).mono ?_
 rintro e W3 ⟨rfl,hb3⟩
 have H3:=hid (H2.out.next hb3);clear H2 hb3
 have i0:=H3.out.c0
 go_wp2_with fail
 clear i0
 refine(NX.out _ (HW.out.below H3.out.bel)).mono ?_
 rintro e W4 ⟨rfl,hb4⟩
 have H4:=hid (H3.out.next hb4);clear H3 hb4
 have i1:=H4.out.c1
 go_wp2_with fail
 clear i1
 refine(NY.out _ (HW.out.below H4.out.bel)).mono ?_
 rintro e W5 ⟨rfl,hb5⟩
 have H5:=hid (H4.out.next hb5);clear H4 hb5
 go_wp2_with fail
 go_ret
 exact⟨rfl,H5.out.bel⟩
theorem zx1 (p:Pt) (h:szP p 36) (w:zA) (hw:Wd w):
 zC zF 39 #[ptV p] w λe w'=>e=.returned (.int .i64 0)/\zB w.heap.size w w':=
 zz9 _ _ (hid λW hW=>zf6 p.x (zc1 (by omega) (by omega) h.1) W hW) (hid λW hW=>zf6 p.y (zc1 (by omega) (by omega) h.2) W hW)
  (hid λW hW=>zpi p.x h.1 W hW) (hid λW hW=>zpi p.y h.2 W hW) w (hid hw)
end
end Go.Proofs.YtlaccnphhomdgaaGreatDoor
