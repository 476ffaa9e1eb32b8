/- kingpostref02: split, parts, ints, small, products, Check at canonical numerals of any length. -/
import Derived.Test.YtlaccnphhomdgaaGreatDoorQ20
import Derived.Test.YtlaccnphhomdgaaGreatDoorQ22
import Derived.Test.YtlaccnphhomdgaaGreatDoorQ19
set_option maxRecDepth 100000
set_option maxHeartbeats 8000000
open Go renaming World → zA, Calls → zC
open Go.RowKit renaming Below → zB
open Go.Lib renaming decDigits → zD, itoa → zE
open Go.Proofs.Tryz renaming prog → zF
open Go.IntWalk renaming i64_in → zI
open Nat renaming le_trans → zO, pos_of_ne_zero → yS
open List renaming getElem_mem → zY, append_nil → yH, append_assoc → yL
open Int renaming natAbs_mul → yK
namespace Go.Proofs.YtlaccnphhomdgaaGreatDoor
open Go.RowKit Go.Shelf Lib Str Limb
attribute [local go_sem] Oper.semAt_some
theorem zdr (l:List UInt8) (hd:∀c∈l,48<=c.toNat/\c.toNat<=57) (hl:l.length<=18) (w:zA):
 zC zF 75 #[St l] w λe w'=>e=.returned (I (val l))/\w'=w:=by
 obtain⟨s,hs⟩:∃s:ByteArray,s=⟨l.toArray⟩:=⟨_,rfl⟩
 obtain⟨b1,b2⟩:=zdd l s hs
 have hvt:=λk hk=>zg3 (l:=l) hd (k:=k) hk
 have hst:∀k (hb:k<s.size),48<=(s[k]'hb).toNat/\(s[k]'hb).toNat<=57/\val (l.take (k+1))=10*val (l.take k)+((s[k]'hb).toNat-48):=λk hb=>by
  have hk:k<l.length:=by omega
  rw[b2 k hk hb,List.take_succ_eq_append_getElem hk,zde]
  exact⟨(hd _ (zY hk)).1,(hd _ (zY hk)).2,rfl⟩
 have hfull:val (l.take s.size)=val l:=by rw[b1,List.take_length]
 show zC _ _ #[.string ⟨l.toArray⟩] _ _
 rw[<-hs]
 have hs9:s.size<=18:=by omega
 generalize hvf:(λk=>val (l.take k))=vf at*
 have hvt':∀k,k<=17->vf k<100000000000000000:=by rw[<-hvf];exact hvt
 have hst':∀k (hb:k<s.size),48<=(s[k]'hb).toNat/\(s[k]'hb).toNat<=57/\vf (k+1)=10*vf k+((s[k]'hb).toNat-48):=by rw[<-hvf];exact hst
 have hfull':vf s.size=val l:=by rw[<-hvf];exact hfull
 have hv0:vf 0=0:=by rw[<-hvf];rfl
 generalize val l=vl at*
 have VT:=hid hvt';have ST:=hid hst';have HF:=hid hfull';have V0:=hid hv0
 clear hvt' hst' hfull' hv0 hvt hst hfull hvf b1 b2 hs hd hl
 go_enter Tryz.func75,Tryz.ntmps75
 go_wp2
 go_loop [3,4] (λa i=>∃k:Nat,k<=s.size/\i=.int .i64 k/\a=.int .i64 (vf k:Nat)) (λ_ i=>s.size-(RowKit.intOf i).toNat)
 case atStart=>exact⟨0,Nat.zero_le _,rfl,by rw[V0.out];rfl⟩
 case round=>
  obtain⟨k,hk,rfl,rfl⟩:=hrel
  by_cases hlt:k<s.size
  ·obtain⟨c1,c2,c3⟩:=ST.out k hlt
   have hv:=VT.out k (by omega)
   generalize vf k=v at*
   have C3:=hid c3;clear c3
   have d1:(48:Int)<=(s[k].toNat:Int):=by omega
   have d2:(s[k].toNat:Int)<=57:=by omega
   go_wp2
   go_round
   case rel=>exact⟨k+1,by omega,by go_num,by rw[C3.out];show Value.int .i64 _=Value.int .i64 _;congr 1;omega⟩
   case measure=>simp[RowKit.intOf];omega
  ·have hk':k=s.size:=by omega
   have HK:=hid hk';clear hk'
   go_wp2
   go_ret
   exact⟨by rw[HK.out,HF.out];rfl,rfl⟩
theorem zr5 (n:Nat) (t:List UInt8):(zD n++47::t).takeWhile (· !=47)=zD n/\((zD n++47::t).dropWhile (· !=47)).tail=t:=by
 have h:∀c∈zD n,(c !=47)=true:=λc hc=>by
  have:=zan n c hc
  simp;intro e;subst e;simp at this
 constructor
 ·rw[List.takeWhile_append_of_pos h];simp
 ·rw[List.dropWhile_append_of_pos h];simp
theorem zpg (n:Nat):(zD n).takeWhile (· !=47)=zD n/\((zD n).dropWhile (· !=47)).tail=[]:=by
 have h:∀c∈zD n,(c !=47)=true:=λc hc=>by
  have:=zan n c hc
  simp;intro e;subst e;simp at this
 constructor
 ·have:=List.takeWhile_append_of_pos (p:=λx:UInt8=>x !=47) (l₁:=zD n) (l₂:=[]) h
  simpa using this
 ·have:=List.dropWhile_append_of_pos (p:=λx:UInt8=>x !=47) (l₁:=zD n) (l₂:=[]) h
  rw[yH] at this
  rw[this];rfl
def denS (q:Rat):List UInt8:=if q.den=1 then[] else zD q.den
theorem zph (q:Rat):upS (numS q)=zD q.num.natAbs/\dnS (numS q)=denS q/\((numS q).head? =some 45↔q.num<0)/\((47:UInt8)∈bare (numS q)↔q.den≠1):=by
 have hb:bare (numS q)=zD q.num.natAbs++(if q.den=1 then[] else 47::zD q.den):=zk1 _ _
 unfold upS dnS denS
 rw[hb]
 refine⟨?_,?_,zk2 _ _,?_⟩
 ·by_cases h:q.den=1
  ·rw[if_pos h,yH];exact(zpg _).1
  ·rw[if_neg h];exact(zr5 _ _).1
 ·by_cases h:q.den=1
  ·rw[if_pos h,if_pos h,yH];exact(zpg _).2
  ·rw[if_neg h,if_neg h];exact(zr5 _ _).2
 ·by_cases h:q.den=1
  ·rw[if_pos h,yH]
   exact⟨λk=>absurd k (zdz _),λk=>absurd h k⟩
  ·rw[if_neg h]
   exact⟨λ_=>h,λ_=>by simp⟩
def okN (q:Rat):Prop:=digs q.num<=300/\(zD q.den).length<=300
theorem zuc {q:Rat} (h:okN q):(numS q).length<=1000:=by
 have h1:=za7 q.num
 obtain⟨h2,h3⟩:=h
 unfold numS
 rw[List.length_append]
 split
 ·simp;omega
 ·simp;omega
theorem zc9 (q:Rat) (h:okN q) (w:zA):
 zC zF 72 #[St (numS q)] w λe w'=>e=.returned (.tuple #[.bool (decide (q.num<0)),St (zD q.num.natAbs),St (denS q),.bool (decide (q.den≠1))])/\zB w.heap.size w w':=by
 obtain⟨h1,h2,h3,h4⟩:=zph q
 have hc:=zn0 (numS q) (zO (zuc h) (by omega)) w
 rw[h1,h2,show decide ((numS q).head? =some 45)=decide (q.num<0) by rw[decide_eq_decide];exact h3,show decide ((47:UInt8)∈bare (numS q))=decide (q.den≠1) by rw[decide_eq_decide];exact h4] at hc
 exact hc
theorem zee (q:Rat) (h:okN q) (w:zA):
 zC zF 162 #[St (numS q)] w λe w'=>e=.returned (.tuple #[St (zE q.num),St (zD q.den)])/\zB w.heap.size w w':=by
 have hc:=zc9 q h w
 have hl:(zD q.num.natAbs).length<=300:=h.1
 have hn:zE q.num=if q.num<0 then 45::zD q.num.natAbs else zD q.num.natAbs:=by
  rcases zbg q.num with⟨k,e⟩|⟨k,e⟩<;>rw[e]
  ·rw[if_neg (by omega)]
  ·rw[if_pos k]
 have hd:q.den=1->zD q.den=[49]:=λe=>by rw[e];decide+kernel
 have hd2:q.den≠1->denS q=zD q.den:=λe=>by unfold denS;rw[if_neg e]
 have HC:=hid hc
 have HN:=hid hn;have HD:=hid hd;have HD2:=hid hd2
 clear hc hn hd hd2 h
 generalize zD q.num.natAbs=a at*
 generalize numS q=s at*
 have f1:¬(9223372036854775807<1+a.length):=by omega
 by_cases hm:q.num<0<;>by_cases h1:q.den=1
 ·rw[decide_eq_true hm,decide_eq_false (by simpa using h1)] at HC
  rw[if_pos hm] at HN
  have hdd:=HD.out h1
  clear hm h1 HD HD2
  rw[hdd]
  clear hdd
  generalize zE q.num=nn at*
  generalize zD q.den=dd at*
  generalize denS q=ds at*
  go_enter Tryz.func162,Tryz.ntmps162
  go_wp2_with fail
  refine HC.out.mono ?_
  rintro e w1 ⟨rfl,hb⟩
  go_wp2_with fail
  go_ret2
  refine⟨?_,hb⟩
  rw[HN.out]
  show Ending.returned (.tuple #[.string (_++_),.string _])=_
  rw[zhf]
 ·rw[decide_eq_true hm,decide_eq_true (by simpa using h1)] at HC
  rw[if_pos hm] at HN
  have hdd:=HD2.out h1
  rw[hdd] at HC
  clear hm h1 HD HD2 hdd
  generalize zE q.num=nn at*
  generalize zD q.den=dd at*
  generalize denS q=ds at*
  go_enter Tryz.func162,Tryz.ntmps162
  go_wp2_with fail
  refine HC.out.mono ?_
  rintro e w1 ⟨rfl,hb⟩
  go_wp2_with fail
  go_ret2
  refine⟨?_,hb⟩
  rw[HN.out]
  show Ending.returned (.tuple #[.string (_++_),.string _])=_
  rw[zhf]
 ·rw[decide_eq_false hm,decide_eq_false (by simpa using h1)] at HC
  rw[if_neg hm] at HN
  have hdd:=HD.out h1
  clear hm h1 HD HD2
  rw[hdd]
  clear hdd
  generalize zE q.num=nn at*
  generalize zD q.den=dd at*
  generalize denS q=ds at*
  go_enter Tryz.func162,Tryz.ntmps162
  go_wp2_with fail
  refine HC.out.mono ?_
  rintro e w1 ⟨rfl,hb⟩
  go_wp2_with fail
  go_ret2
  exact⟨by rw[HN.out];rfl,hb⟩
 ·rw[decide_eq_false hm,decide_eq_true (by simpa using h1)] at HC
  rw[if_neg hm] at HN
  have hdd:=HD2.out h1
  rw[hdd] at HC
  clear hm h1 HD HD2 hdd
  generalize zE q.num=nn at*
  generalize zD q.den=dd at*
  generalize denS q=ds at*
  go_enter Tryz.func162,Tryz.ntmps162
  go_wp2_with fail
  refine HC.out.mono ?_
  rintro e w1 ⟨rfl,hb⟩
  go_wp2_with fail
  go_ret2
  exact⟨by rw[HN.out];rfl,hb⟩
def zbc (q:Rat):Prop:=digs q.num<=9/\(zD q.den).length<=9
theorem zr6 (q:Rat):(denS q).length<=9↔(zD q.den).length<=9:=by
 unfold denS
 split
 ·rename_i h
  rw[h]
  have:(zD 1).length=1:=by decide+kernel
  simp[this]
 ·exact Iff.rfl
theorem zxr (q:Rat) (h:okN q) (hn:¬zbc q) (w:zA):
 zC zF 209 #[St (numS q)] w λe w'=>e=.returned (.tuple #[.int .i64 0,.int .i64 0,.bool false])/\zB w.heap.size w w':=by
 have hc:=zc9 q h w
 have hl1:(zD q.num.natAbs).length<=300:=h.1
 have hl2:(denS q).length<=300:=by unfold denS;split;exact Nat.zero_le _;exact h.2
 have hor:9<(zD q.num.natAbs).length\/((zD q.num.natAbs).length<=9/\9<(denS q).length):=by
  have:=zr6 q
  by_cases h1:(zD q.num.natAbs).length<=9
  ·right
   refine⟨h1,?_⟩
   rcases Nat.lt_or_ge 9 (denS q).length with h2|h2
   ·exact h2
   ·exact absurd ⟨h1,this.1 h2⟩ hn
  ·left;omega
 have HC:=hid hc
 clear hc h hn
 generalize zD q.num.natAbs=a at*
 generalize denS q=ds at*
 generalize numS q=s at*
 generalize decide (q.num<0)=mb at*
 generalize decide (q.den≠1)=db at*
 go_enter Tryz.func209,Tryz.ntmps209
 go_wp2_with fail
 refine HC.out.mono ?_
 rintro e w1 ⟨rfl,hb⟩
 rcases hor with h1|⟨h1,h2⟩
 ·have g1:(9:Int)<a.length:=by omega
  go_wp2_with fail
  go_ret3
  exact⟨rfl,hb⟩
 ·have g1:¬(9:Int)<a.length:=by omega
  have g2:(9:Int)<ds.length:=by omega
  go_wp2_with fail
  go_ret3
  exact⟨rfl,hb⟩
theorem zef (q:Rat) (h:okN q) (hn:zbc q) (w:zA):
 zC zF 209 #[St (numS q)] w λe w'=>e=.returned (.tuple #[.int .i64 q.num,.int .i64 (q.den:Int),.bool true])/\zB w.heap.size w w':=by
 have hc:=zc9 q h w
 have hl1:(zD q.num.natAbs).length<=9:=hn.1
 have hl2:(denS q).length<=9:=(zr6 q).2 hn.2
 have s1:=λW=>zdr (zD q.num.natAbs) (zan _) (by omega) W
 have s2:=λW=>zdr (zD q.den) (zan _) (by have:=hn.2;omega) W
 rw[zb2] at s1 s2
 have b1:q.num.natAbs<1000000000:=(zaf _ 9 (by omega)).1 hn.1
 have hd2:q.den≠1->denS q=zD q.den:=λe=>by unfold denS;rw[if_neg e]
 have HC:=hid hc;have S1:=hid s1;have S2:=hid s2;have HD2:=hid hd2
 obtain⟨a,ha⟩:∃a,a=q.num.natAbs:=⟨_,rfl⟩
 rw[<-ha] at HC S1 hl1 b1
 have g1:¬(9:Int)<(zD a).length:=by omega
 have g2:¬(9:Int)<(denS q).length:=by omega
 clear hc h hn s1 s2 hd2
 generalize zD a=da at*
 generalize numS q=s at*
 by_cases hm:q.num<0<;>by_cases h1:q.den=1
 ·rw[decide_eq_true hm,decide_eq_false (by simpa using h1)] at HC
  have hw:IntKind.i64.wrap (-(a:Int))=q.num:=by rw[show-(a:Int)=q.num by omega];exact zI _ (by omega)
  rw[h1]
  clear hm ha HD2 b1
  generalize q.num=nn at*
  generalize denS q=ds at*
  generalize q.den=den at*
  generalize zD den=dd at*
  go_enter Tryz.func209,Tryz.ntmps209
  go_wp2_with fail
  refine HC.out.mono ?_
  rintro e w1 ⟨rfl,hb⟩
  go_wp2_with fail
  refine(S1.out w1).mono ?_
  rintro e w2 ⟨rfl,hw2⟩
  have hw2':=hw2.symm;subst hw2'
  go_wp2_with fail
  go_ret3
  exact⟨rfl,hb⟩
 ·rw[decide_eq_true hm,decide_eq_true (by simpa using h1)] at HC
  have hw:IntKind.i64.wrap (-(a:Int))=q.num:=by rw[show-(a:Int)=q.num by omega];exact zI _ (by omega)
  rw[HD2.out h1] at HC g2 hl2
  clear hm ha HD2 b1
  generalize q.num=nn at*
  generalize denS q=ds at*
  generalize q.den=den at*
  generalize zD den=dd at*
  go_enter Tryz.func209,Tryz.ntmps209
  go_wp2_with fail
  refine HC.out.mono ?_
  rintro e w1 ⟨rfl,hb⟩
  go_wp2_with fail
  refine(S1.out w1).mono ?_
  rintro e w2 ⟨rfl,hw2⟩
  have hw2':=hw2.symm;subst hw2'
  go_wp2_with fail
  refine(S2.out w1).mono ?_
  rintro e w3 ⟨rfl,hw3⟩
  have hw3':=hw3.symm;subst hw3'
  go_wp2_with fail
  go_ret3
  exact⟨rfl,hb⟩
 ·rw[decide_eq_false hm,decide_eq_false (by simpa using h1)] at HC
  have hw:(q.num:Int)=(a:Int):=by omega
  rw[hw]
  rw[h1]
  clear hm ha HD2 b1 hw
  generalize q.num=nn at*
  generalize denS q=ds at*
  generalize q.den=den at*
  generalize zD den=dd at*
  go_enter Tryz.func209,Tryz.ntmps209
  go_wp2_with fail
  refine HC.out.mono ?_
  rintro e w1 ⟨rfl,hb⟩
  go_wp2_with fail
  refine(S1.out w1).mono ?_
  rintro e w2 ⟨rfl,hw2⟩
  have hw2':=hw2.symm;subst hw2'
  go_wp2_with fail
  go_ret3
  exact⟨rfl,hb⟩
 ·rw[decide_eq_false hm,decide_eq_true (by simpa using h1)] at HC
  have hw:(q.num:Int)=(a:Int):=by omega
  rw[hw]
  rw[HD2.out h1] at HC g2 hl2
  clear hm ha HD2 b1 hw
  generalize q.num=nn at*
  generalize denS q=ds at*
  generalize q.den=den at*
  generalize zD den=dd at*
  go_enter Tryz.func209,Tryz.ntmps209
  go_wp2_with fail
  refine HC.out.mono ?_
  rintro e w1 ⟨rfl,hb⟩
  go_wp2_with fail
  refine(S1.out w1).mono ?_
  rintro e w2 ⟨rfl,hw2⟩
  have hw2':=hw2.symm;subst hw2'
  go_wp2_with fail
  refine(S2.out w1).mono ?_
  rintro e w3 ⟨rfl,hw3⟩
  have hw3':=hw3.symm;subst hw3'
  go_wp2_with fail
  go_ret3
  exact⟨rfl,hb⟩
theorem zff (a b c d:Int) (ha:digs a<=300) (hb:digs b<=300) (hc:digs c<=300) (hd:digs d<=300) (hab:digs (a*b)<=300) (hcd:digs (c*d)<=300) (w:zA) (hw:Wd w):
 zC zF 210 #[St (zE a),St (zE b),St (zE c),St (zE d)] w λe w'=>e=.returned (.tuple #[St (zE (a*b)),St (zE (c*d)),.int .i64 0])/\zB w.heap.size w w':=by
 have c1:=λW hW=>zr2 a b ha hb hab W hW
 have c2:=λW hW=>zr2 c d hc hd hcd W hW
 have HW:=hid hw;have C1:=hid c1;have C2:=hid c2
 clear c1 c2 hw ha hb hc hd hab hcd
 generalize zE (a*b)=x at*
 generalize zE (c*d)=y at*
 generalize zE a=sa at*
 generalize zE b=sb at*
 generalize zE c=sc at*
 generalize zE d=sd at*
 go_enter Tryz.func210,Tryz.ntmps210
 go_wp2_with fail
 refine(C1.out w HW.out).mono ?_
 rintro e w1 ⟨rfl,hb1⟩
 have HB1:=hid hb1;clear hb1
 go_wp2_with fail
 refine(C2.out w1 (HW.out.below HB1.out)).mono ?_
 rintro e w2 ⟨rfl,hb2⟩
 have HB2:=hid (HB1.out.trans (hb2.mono HB1.out.size));clear hb2
 go_wp2_with fail
 go_ret3
 exact⟨rfl,HB2.out⟩
theorem zce (n:Nat) (h:(zD n).length<=300) (W:zA):zC zF 73 #[St (zD n)] W λe w'=>e=.returned (.bool true)/\w'=W:=by
 refine(zme (zD n) (by omega) W).mono ?_
 rintro e w' ⟨b,rfl,hb,hw⟩
 have:b=true:=hb.2 (zh9 n)
 exact⟨by rw[this],hw⟩
theorem zd1 (n k:Nat) (h:n≠k) (l:List UInt8) (hl:zD k=l):(zD n==l)=false/\¬zD n=l:=by
 have:¬zD n=l:=λe=>h (by rw[<-hl] at e;have:=congrArg val e;rwa [zb2,zb2] at this)
 exact⟨by rw[beq_eq_false_iff_ne];exact this,this⟩
theorem zxs (q:Rat) (h:okN q) (hm:q.num<0) (h1:q.den=1) (w:zA) (hw:Wd w):
 zC zF 38 #[St (numS q)] w λe w'=>e=.returned (.int .i64 0)/\zB w.heap.size w w':=by
 have hc:=zc9 q h w
 rw[decide_eq_true hm,decide_eq_false (by simpa using h1)] at hc
 have hl1:(zD q.num.natAbs).length<=300:=h.1
 have hl2:(zD q.den).length<=300:=h.2
 have d1:=λW=>zce q.num.natAbs hl1 W
 have d2:=λW=>zce q.den hl2 W
 have hpos:1<=(zD q.den).length:=by have:=zbn (q.den:Int);unfold digs at this;simpa using this
 obtain⟨z1,z2⟩:=zd1 q.num.natAbs 0 (by omega) [48] (by decide+kernel)
 have hdd:denS q=[]:=by unfold denS;rw[if_pos h1]
 rw[hdd] at hc
 have j1:¬(300:Int)<(zD q.num.natAbs).length:=by omega
 have j2:¬(300:Int)<(zD q.den).length:=by omega
 have HC:=hid hc;have D1:=hid d1;have D2:=hid d2;have HW:=hid hw
 clear hc d1 d2 hw hm h h1 hdd
 generalize q.num.natAbs=na at*
 generalize q.den=den at*
 generalize zD na=a at*
 generalize zD den=d at*
 generalize numS q=s at*
 go_enter Tryz.func38,Tryz.ntmps38
 go_wp2_with fail
 refine HC.out.mono ?_
 rintro e w1 ⟨rfl,hb⟩
 have HB:=hid hb;clear hb
 go_wp2_with fail
 refine(D1.out w1).mono ?_
 rintro e w2 ⟨rfl,hw2⟩
 have hw2':=hw2.symm;subst hw2'
 go_wp2_with fail
 go_ret
 exact⟨rfl,HB.out⟩
theorem zxt (q:Rat) (h:okN q) (hm:¬q.num<0) (h1:q.den=1) (w:zA) (hw:Wd w):
 zC zF 38 #[St (numS q)] w λe w'=>e=.returned (.int .i64 0)/\zB w.heap.size w w':=by
 have hc:=zc9 q h w
 rw[decide_eq_false hm,decide_eq_false (by simpa using h1)] at hc
 have hl1:(zD q.num.natAbs).length<=300:=h.1
 have hl2:(zD q.den).length<=300:=h.2
 have d1:=λW=>zce q.num.natAbs hl1 W
 have d2:=λW=>zce q.den hl2 W
 have hpos:1<=(zD q.den).length:=by have:=zbn (q.den:Int);unfold digs at this;simpa using this
 have hdd:denS q=[]:=by unfold denS;rw[if_pos h1]
 rw[hdd] at hc
 have j1:¬(300:Int)<(zD q.num.natAbs).length:=by omega
 have j2:¬(300:Int)<(zD q.den).length:=by omega
 have HC:=hid hc;have D1:=hid d1;have D2:=hid d2;have HW:=hid hw
 clear hc d1 d2 hw hm h h1 hdd
 generalize q.num.natAbs=na at*
 generalize q.den=den at*
 generalize zD na=a at*
 generalize zD den=d at*
 generalize numS q=s at*
 go_enter Tryz.func38,Tryz.ntmps38
 go_wp2_with fail
 refine HC.out.mono ?_
 rintro e w1 ⟨rfl,hb⟩
 have HB:=hid hb;clear hb
 go_wp2_with fail
 refine(D1.out w1).mono ?_
 rintro e w2 ⟨rfl,hw2⟩
 have hw2':=hw2.symm;subst hw2'
 go_wp2_with fail
 go_ret
 exact⟨rfl,HB.out⟩
theorem zxu (q:Rat) (h:okN q) (hm:q.num<0) (h1:q.den≠1) (hn:zbc q) (w:zA) (hw:Wd w):
 zC zF 38 #[St (numS q)] w λe w'=>e=.returned (.int .i64 0)/\zB w.heap.size w w':=by
 have hc:=zc9 q h w
 rw[decide_eq_true hm,decide_eq_true (by simpa using h1)] at hc
 have hl1:(zD q.num.natAbs).length<=300:=h.1
 have hl2:(zD q.den).length<=300:=h.2
 have d1:=λW=>zce q.num.natAbs hl1 W
 have d2:=λW=>zce q.den hl2 W
 have hpos:1<=(zD q.den).length:=by have:=zbn (q.den:Int);unfold digs at this;simpa using this
 obtain⟨z1,z2⟩:=zd1 q.num.natAbs 0 (by omega) [48] (by decide+kernel)
 obtain⟨z3,z4⟩:=zd1 q.den 0 (by have:=q.den_pos;omega) [48] (by decide+kernel)
 obtain⟨z5,z6⟩:=zd1 q.den 1 h1 [49] (by decide+kernel)
 have hdd:denS q=zD q.den:=by unfold denS;rw[if_neg h1]
 rw[hdd] at hc
 have s1:=λW=>zdr (zD q.num.natAbs) (zan _) (by have:=hn.1;unfold digs at this;omega) W
 have s2:=λW=>zdr (zD q.den) (zan _) (by have:=hn.2;omega) W
 rw[zb2] at s1 s2
 have sg:=λW=>zm1 q.num.natAbs q.den (by have:=(zaf _ 9 (by omega)).1 hn.1;omega) (by have:=(zaf _ 9 (by omega)).1 hn.2;omega) W
 rw[show Nat.gcd q.num.natAbs q.den=1 from q.reduced] at sg
 have k1:((zD q.num.natAbs).length:Int)<=9:=by have:=hn.1;unfold digs at this;omega
 have k2:((zD q.den).length:Int)<=9:=by have:=hn.2;omega
 have S1:=hid s1;have S2:=hid s2;have SG:=hid sg
 clear s1 s2 sg
 have j1:¬(300:Int)<(zD q.num.natAbs).length:=by omega
 have j2:¬(300:Int)<(zD q.den).length:=by omega
 have HC:=hid hc;have D1:=hid d1;have D2:=hid d2;have HW:=hid hw
 clear hc d1 d2 hw hm h h1 hdd hn
 generalize q.num.natAbs=na at*
 generalize q.den=den at*
 generalize zD na=a at*
 generalize zD den=d at*
 generalize numS q=s at*
 go_enter Tryz.func38,Tryz.ntmps38
 go_wp2_with fail
 refine HC.out.mono ?_
 rintro e w1 ⟨rfl,hb⟩
 have HB:=hid hb;clear hb
 go_wp2_with fail
 refine(D1.out w1).mono ?_
 rintro e w2 ⟨rfl,hw2⟩
 have hw2':=hw2.symm;subst hw2'
 go_wp2_with fail
 refine(D2.out w1).mono ?_
 rintro e w3 ⟨rfl,hw3⟩
 have hw3':=hw3.symm;subst hw3'
 go_wp2_with fail
 refine(S1.out w1).mono ?_
 rintro e w4 ⟨rfl,hw4⟩
 have hw4':=hw4.symm;subst hw4'
 go_wp2_with fail
 refine(S2.out w1).mono ?_
 rintro e w5 ⟨rfl,hw5⟩
 have hw5':=hw5.symm;subst hw5'
 go_wp2_with fail
 refine(SG.out w1).mono ?_
 rintro e w6 ⟨nd,rfl,hw6⟩
 have hb6:=HB.out.trans ((show zB w1.heap.size w1 w6 by rw[hw6];exact zzD (Below.refl _ w1) _).mono HB.out.size)
 clear hw6
 go_wp2_with fail
 go_ret
 exact⟨rfl,hb6⟩
theorem zxv (q:Rat) (h:okN q) (hm:¬q.num<0) (h1:q.den≠1) (hn:zbc q) (w:zA) (hw:Wd w):
 zC zF 38 #[St (numS q)] w λe w'=>e=.returned (.int .i64 0)/\zB w.heap.size w w':=by
 have hc:=zc9 q h w
 rw[decide_eq_false hm,decide_eq_true (by simpa using h1)] at hc
 have hl1:(zD q.num.natAbs).length<=300:=h.1
 have hl2:(zD q.den).length<=300:=h.2
 have d1:=λW=>zce q.num.natAbs hl1 W
 have d2:=λW=>zce q.den hl2 W
 have hpos:1<=(zD q.den).length:=by have:=zbn (q.den:Int);unfold digs at this;simpa using this
 obtain⟨z3,z4⟩:=zd1 q.den 0 (by have:=q.den_pos;omega) [48] (by decide+kernel)
 obtain⟨z5,z6⟩:=zd1 q.den 1 h1 [49] (by decide+kernel)
 have hdd:denS q=zD q.den:=by unfold denS;rw[if_neg h1]
 rw[hdd] at hc
 have s1:=λW=>zdr (zD q.num.natAbs) (zan _) (by have:=hn.1;unfold digs at this;omega) W
 have s2:=λW=>zdr (zD q.den) (zan _) (by have:=hn.2;omega) W
 rw[zb2] at s1 s2
 have sg:=λW=>zm1 q.num.natAbs q.den (by have:=(zaf _ 9 (by omega)).1 hn.1;omega) (by have:=(zaf _ 9 (by omega)).1 hn.2;omega) W
 rw[show Nat.gcd q.num.natAbs q.den=1 from q.reduced] at sg
 have k1:((zD q.num.natAbs).length:Int)<=9:=by have:=hn.1;unfold digs at this;omega
 have k2:((zD q.den).length:Int)<=9:=by have:=hn.2;omega
 have S1:=hid s1;have S2:=hid s2;have SG:=hid sg
 clear s1 s2 sg
 have j1:¬(300:Int)<(zD q.num.natAbs).length:=by omega
 have j2:¬(300:Int)<(zD q.den).length:=by omega
 have HC:=hid hc;have D1:=hid d1;have D2:=hid d2;have HW:=hid hw
 clear hc d1 d2 hw hm h h1 hdd hn
 generalize q.num.natAbs=na at*
 generalize q.den=den at*
 generalize zD na=a at*
 generalize zD den=d at*
 generalize numS q=s at*
 go_enter Tryz.func38,Tryz.ntmps38
 go_wp2_with fail
 refine HC.out.mono ?_
 rintro e w1 ⟨rfl,hb⟩
 have HB:=hid hb;clear hb
 go_wp2_with fail
 refine(D1.out w1).mono ?_
 rintro e w2 ⟨rfl,hw2⟩
 have hw2':=hw2.symm;subst hw2'
 go_wp2_with fail
 refine(D2.out w1).mono ?_
 rintro e w3 ⟨rfl,hw3⟩
 have hw3':=hw3.symm;subst hw3'
 go_wp2_with fail
 refine(S1.out w1).mono ?_
 rintro e w4 ⟨rfl,hw4⟩
 have hw4':=hw4.symm;subst hw4'
 go_wp2_with fail
 refine(S2.out w1).mono ?_
 rintro e w5 ⟨rfl,hw5⟩
 have hw5':=hw5.symm;subst hw5'
 go_wp2_with fail
 refine(SG.out w1).mono ?_
 rintro e w6 ⟨nd,rfl,hw6⟩
 have hb6:=HB.out.trans ((show zB w1.heap.size w1 w6 by rw[hw6];exact zzD (Below.refl _ w1) _).mono HB.out.size)
 clear hw6
 go_wp2_with fail
 go_ret
 exact⟨rfl,hb6⟩
theorem zxw (q:Rat) (h:okN q) (hm:q.num<0) (h1:q.den≠1) (hn:¬zbc q) (w:zA) (hw:Wd w):
 zC zF 38 #[St (numS q)] w λe w'=>e=.returned (.int .i64 0)/\zB w.heap.size w w':=by
 have hc:=zc9 q h w
 rw[decide_eq_true hm,decide_eq_true (by simpa using h1)] at hc
 have hl1:(zD q.num.natAbs).length<=300:=h.1
 have hl2:(zD q.den).length<=300:=h.2
 have d1:=λW=>zce q.num.natAbs hl1 W
 have d2:=λW=>zce q.den hl2 W
 have hpos:1<=(zD q.den).length:=by have:=zbn (q.den:Int);unfold digs at this;simpa using this
 obtain⟨z1,z2⟩:=zd1 q.num.natAbs 0 (by omega) [48] (by decide+kernel)
 obtain⟨z3,z4⟩:=zd1 q.den 0 (by have:=q.den_pos;omega) [48] (by decide+kernel)
 obtain⟨z5,z6⟩:=zd1 q.den 1 h1 [49] (by decide+kernel)
 have hdd:denS q=zD q.den:=by unfold denS;rw[if_neg h1]
 rw[hdd] at hc
 have yg:=λW hW=>zgm (q.num.natAbs:Int) (q.den:Int) (by unfold digs;rw[Int.natAbs_natCast];exact hl1) (by unfold digs;rw[Int.natAbs_natCast];exact hl2) W hW
 rw[Str.zad,Str.zad,show Int.gcd (q.num.natAbs:Int) (q.den:Int)=1 by rw[Int.gcd,Int.natAbs_natCast,Int.natAbs_natCast];exact q.reduced,Str.zad,show zD 1=[49] by decide+kernel] at yg
 have hor:9<(zD q.num.natAbs).length\/((zD q.num.natAbs).length<=9/\9<(zD q.den).length):=by
  by_cases k1:(zD q.num.natAbs).length<=9
  ·right
   refine⟨k1,?_⟩
   rcases Nat.lt_or_ge 9 (zD q.den).length with k2|k2
   ·exact k2
   ·exact absurd ⟨k1,k2⟩ hn
  ·left;omega
 have YG:=hid yg
 clear yg
 have j1:¬(300:Int)<(zD q.num.natAbs).length:=by omega
 have j2:¬(300:Int)<(zD q.den).length:=by omega
 have HC:=hid hc;have D1:=hid d1;have D2:=hid d2;have HW:=hid hw
 clear hc d1 d2 hw hm h h1 hdd hn
 generalize q.num.natAbs=na at*
 generalize q.den=den at*
 generalize zD na=a at*
 generalize zD den=d at*
 generalize numS q=s at*
 go_enter Tryz.func38,Tryz.ntmps38
 go_wp2_with fail
 refine HC.out.mono ?_
 rintro e w1 ⟨rfl,hb⟩
 have HB:=hid hb;clear hb
 go_wp2_with fail
 refine(D1.out w1).mono ?_
 rintro e w2 ⟨rfl,hw2⟩
 have hw2':=hw2.symm;subst hw2'
 go_wp2_with fail
 refine(D2.out w1).mono ?_
 rintro e w3 ⟨rfl,hw3⟩
 have hw3':=hw3.symm;subst hw3'
 rcases hor with k1|⟨k1,k2⟩
 ·have k1':¬(a.length:Int)<=9:=by omega
  go_wp2_with fail
  refine(YG.out w1 (HW.out.below HB.out)).mono ?_
  rintro e w4 ⟨rfl,hb4⟩
  have hb5:=HB.out.trans (hb4.mono HB.out.size)
  clear hb4
  go_wp2_with fail
  go_ret
  exact⟨rfl,hb5⟩
 ·have k1':(a.length:Int)<=9:=by omega
  have k2':¬(d.length:Int)<=9:=by omega
  go_wp2_with fail
  refine(YG.out w1 (HW.out.below HB.out)).mono ?_
  rintro e w4 ⟨rfl,hb4⟩
  have hb5:=HB.out.trans (hb4.mono HB.out.size)
  clear hb4
  go_wp2_with fail
  go_ret
  exact⟨rfl,hb5⟩
theorem zxx (q:Rat) (h:okN q) (hm:¬q.num<0) (h1:q.den≠1) (hn:¬zbc q) (w:zA) (hw:Wd w):
 zC zF 38 #[St (numS q)] w λe w'=>e=.returned (.int .i64 0)/\zB w.heap.size w w':=by
 have hc:=zc9 q h w
 rw[decide_eq_false hm,decide_eq_true (by simpa using h1)] at hc
 have hl1:(zD q.num.natAbs).length<=300:=h.1
 have hl2:(zD q.den).length<=300:=h.2
 have d1:=λW=>zce q.num.natAbs hl1 W
 have d2:=λW=>zce q.den hl2 W
 have hpos:1<=(zD q.den).length:=by have:=zbn (q.den:Int);unfold digs at this;simpa using this
 obtain⟨z3,z4⟩:=zd1 q.den 0 (by have:=q.den_pos;omega) [48] (by decide+kernel)
 obtain⟨z5,z6⟩:=zd1 q.den 1 h1 [49] (by decide+kernel)
 have hdd:denS q=zD q.den:=by unfold denS;rw[if_neg h1]
 rw[hdd] at hc
 have yg:=λW hW=>zgm (q.num.natAbs:Int) (q.den:Int) (by unfold digs;rw[Int.natAbs_natCast];exact hl1) (by unfold digs;rw[Int.natAbs_natCast];exact hl2) W hW
 rw[Str.zad,Str.zad,show Int.gcd (q.num.natAbs:Int) (q.den:Int)=1 by rw[Int.gcd,Int.natAbs_natCast,Int.natAbs_natCast];exact q.reduced,Str.zad,show zD 1=[49] by decide+kernel] at yg
 have hor:9<(zD q.num.natAbs).length\/((zD q.num.natAbs).length<=9/\9<(zD q.den).length):=by
  by_cases k1:(zD q.num.natAbs).length<=9
  ·right
   refine⟨k1,?_⟩
   rcases Nat.lt_or_ge 9 (zD q.den).length with k2|k2
   ·exact k2
   ·exact absurd ⟨k1,k2⟩ hn
  ·left;omega
 have YG:=hid yg
 clear yg
 have j1:¬(300:Int)<(zD q.num.natAbs).length:=by omega
 have j2:¬(300:Int)<(zD q.den).length:=by omega
 have HC:=hid hc;have D1:=hid d1;have D2:=hid d2;have HW:=hid hw
 clear hc d1 d2 hw hm h h1 hdd hn
 generalize q.num.natAbs=na at*
 generalize q.den=den at*
 generalize zD na=a at*
 generalize zD den=d at*
 generalize numS q=s at*
 go_enter Tryz.func38,Tryz.ntmps38
 go_wp2_with fail
 refine HC.out.mono ?_
 rintro e w1 ⟨rfl,hb⟩
 have HB:=hid hb;clear hb
 go_wp2_with fail
 refine(D1.out w1).mono ?_
 rintro e w2 ⟨rfl,hw2⟩
 have hw2':=hw2.symm;subst hw2'
 go_wp2_with fail
 refine(D2.out w1).mono ?_
 rintro e w3 ⟨rfl,hw3⟩
 have hw3':=hw3.symm;subst hw3'
 rcases hor with k1|⟨k1,k2⟩
 ·have k1':¬(a.length:Int)<=9:=by omega
  go_wp2_with fail
  refine(YG.out w1 (HW.out.below HB.out)).mono ?_
  rintro e w4 ⟨rfl,hb4⟩
  have hb5:=HB.out.trans (hb4.mono HB.out.size)
  clear hb4
  go_wp2_with fail
  go_ret
  exact⟨rfl,hb5⟩
 ·have k1':(a.length:Int)<=9:=by omega
  have k2':¬(d.length:Int)<=9:=by omega
  go_wp2_with fail
  refine(YG.out w1 (HW.out.below HB.out)).mono ?_
  rintro e w4 ⟨rfl,hb4⟩
  have hb5:=HB.out.trans (hb4.mono HB.out.size)
  clear hb4
  go_wp2_with fail
  go_ret
  exact⟨rfl,hb5⟩
theorem zf6 (q:Rat) (h:okN q) (w:zA) (hw:Wd w):
 zC zF 38 #[St (numS q)] w λe w'=>e=.returned (.int .i64 0)/\zB w.heap.size w w':=by
 by_cases hm:q.num<0<;>by_cases h1:q.den=1
 ·exact zxs q h hm h1 w hw
 ·by_cases hn:zbc q
  ·exact zxu q h hm h1 hn w hw
  ·exact zxw q h hm h1 hn w hw
 ·exact zxt q h hm h1 w hw
 ·by_cases hn:zbc q
  ·exact zxv q h hm h1 hn w hw
  ·exact zxx q h hm h1 hn w hw
theorem zf7 (q r:Rat) (hq:okN q) (hr:okN r) (w:zA) (hw:Wd w):
 zC zF 208 #[St (numS q),St (numS r)] w λe w'=>e=.returned (.int .i64 0)/\zB w.heap.size w w':=by
 have c1:=λW hW=>zf6 q hq W hW
 have c2:=λW hW=>zf6 r hr W hW
 generalize numS q=x at*
 generalize numS r=y at*
 have C1:=hid c1;have C2:=hid c2;have HW:=hid hw
 clear c1 c2 hq hr hw
 go_enter Tryz.func208,Tryz.ntmps208
 go_wp2_with fail
 refine(C1.out w HW.out).mono ?_
 rintro e w1 ⟨rfl,hb1⟩
 have HB1:=hid hb1;clear hb1
 go_wp2_with fail
 refine(C2.out w1 (HW.out.below HB1.out)).mono ?_
 rintro e w2 ⟨rfl,hb2⟩
 have HB2:=hid (HB1.out.trans (hb2.mono HB1.out.size));clear hb2
 go_wp2_with fail
 go_ret
 exact⟨rfl,HB2.out⟩
theorem zvl (q:Rat) (h:okN q) (w:zA) (hw:Wd w):
 zC zF 117 #[St (numS q)] w λe w'=>e=.returned (.tuple #[St (zE q.num),St (zD q.den),.int .i64 0])/\zB w.heap.size w w':=by
 have c1:=zf6 q h w hw
 have c2:=λW=>zee q h W
 generalize numS q=x at*
 generalize zE q.num=n at*
 generalize zD q.den=d at*
 have C1:=hid c1;have C2:=hid c2
 clear c1 c2 h hw
 go_enter Tryz.func117,Tryz.ntmps117
 go_wp2_with fail
 refine C1.out.mono ?_
 rintro e w1 ⟨rfl,hb1⟩
 have HB1:=hid hb1;clear hb1
 go_wp2_with fail
 refine(C2.out w1).mono ?_
 rintro e w2 ⟨rfl,hb2⟩
 have HB2:=hid (HB1.out.trans (hb2.mono HB1.out.size));clear hb2
 go_wp2_with fail
 go_ret3
 exact⟨rfl,HB2.out⟩
theorem zdn (z:Int) (s:ByteArray) (hs:s=⟨(zE z).toArray⟩):∃h:0<s.size,(((s[0]'h).toNat:Int)==45)=decide (z<0)/\(z<0->s.extract 1 s.size=⟨(zD z.natAbs).toArray⟩):=by
 obtain⟨b1,b2⟩:=zdd (zE z) s hs
 have hp:0<(zE z).length:=Nat.lt_of_lt_of_le (zbn z) (zbr z)
 have h:0<s.size:=by omega
 refine⟨h,?_,?_⟩
 ·rw[b2 0 hp h]
  rcases zbg z with⟨k,e⟩|⟨k,e⟩
  ·rw[decide_eq_false (by omega),beq_eq_false_iff_ne]
   have hd:=zan z.natAbs ((zE z)[0]'hp) (by simp only[e];exact zY _)
   omega
  ·rw[decide_eq_true k,beq_iff_eq]
   simp only[e]
   rfl
 ·intro k
  rcases zbg z with⟨k',e⟩|⟨_,e⟩
  ·omega
  ·rw[hs,zev,e];rfl
theorem zft (n:Nat) (s:ByteArray) (hs:s=⟨(zD n).toArray⟩):∃h:0<s.size,(((s[0]'h).toNat:Int)==45)=false:=by
 obtain⟨h,e,_⟩:=zdn (n:Int) s (by rw[Str.zad];exact hs)
 exact⟨h,by rw[e];simp⟩
theorem zqb (n:Int) (D:Nat) (hD:0<D) (hm:n<0) (h1:(zE n).length<=18) (h2:(zD D).length<=18) (w:zA):
 zC zF 247 #[St (zE n),St (zD D)] w λe w'=>e=.returned (.tuple #[St (numS (Rat.divInt n (D:Int))),.int .i64 0])/\zB w.heap.size w w':=by
 have hn18:n.natAbs<1000000000000000000:=(za3 n 18 (by omega)).1 (zO (zbr n) h1)
 have hD18:D<1000000000000000000:=(zaf D 18 (by omega)).1 h2
 have hdl:(zD n.natAbs).length<=18:=(zaf _ 18 (by omega)).2 hn18
 have s1:=λW=>zdr (zD n.natAbs) (zan _) hdl W
 have s2:=λW=>zdr (zD D) (zan _) h2 W
 rw[zb2] at s1 s2
 have qk:=λW=>zhg n D (by omega) hD (by omega) W
 obtain⟨sn,hsn⟩:∃s:ByteArray,s=⟨(zE n).toArray⟩:=⟨_,rfl⟩
 obtain⟨sd,hsd⟩:∃s:ByteArray,s=⟨(zD D).toArray⟩:=⟨_,rfl⟩
 obtain⟨p1,p2,p3⟩:=zdn n sn hsn
 obtain⟨r1,r2⟩:=zft D sd hsd
 have l1:sn.size<=18:=by rw[hsn];exact h1
 have l2:sd.size<=18:=by rw[hsd];exact h2
 have l1':(sn.size:Int)<=18:=by omega
 have l2':(sd.size:Int)<=18:=by omega
 rw[decide_eq_true hm] at p2
 have hx:=p3 hm
 have hw:IntKind.i64.wrap (-(n.natAbs:Int))=n:=by rw[show-(n.natAbs:Int)=n by omega];exact zI _ (by omega)
 show zC _ _ #[.string ⟨(zE n).toArray⟩,.string ⟨(zD D).toArray⟩] _ _
 have s2':∀W:zA,zC zF 75 #[.string sd] W λe w'=>e=.returned (I D)/\w'=W:=λW=>by rw[hsd];exact s2 W
 obtain⟨su,hsu⟩:∃s:ByteArray,s=⟨(zD n.natAbs).toArray⟩:=⟨_,rfl⟩
 have s1':∀W:zA,zC zF 75 #[.string su] W λe w'=>e=.returned (I n.natAbs)/\w'=W:=λW=>by rw[hsu];exact s1 W
 rw[<-hsu] at hx
 rw[<-hsn,<-hsd]
 have S1:=hid s1';have S2:=hid s2';have QK:=hid qk
 clear s1 s2 qk s1' s2' hsn hsd h1 h2 hdl p3 hsu
 generalize numS (Rat.divInt n (D:Int))=t at*
 generalize n.natAbs=na at*
 go_enter Tryz.func247,Tryz.ntmps247
 go_wp2_with fail
 refine(S1.out w).mono ?_
 rintro e w1 ⟨rfl,hw1⟩
 have hw1':=hw1.symm;subst hw1'
 go_wp2_with fail
 refine(S2.out w).mono ?_
 rintro e w2 ⟨rfl,hw2⟩
 have hw2':=hw2.symm;subst hw2'
 go_wp2_with fail
 refine(QK.out w).mono ?_
 rintro e w3 ⟨rfl,hb3⟩
 go_wp2_with fail
 go_ret2
 exact⟨rfl,hb3⟩
theorem zqc (n:Int) (D:Nat) (hD:0<D) (hm:¬n<0) (h1:(zE n).length<=18) (h2:(zD D).length<=18) (w:zA):
 zC zF 247 #[St (zE n),St (zD D)] w λe w'=>e=.returned (.tuple #[St (numS (Rat.divInt n (D:Int))),.int .i64 0])/\zB w.heap.size w w':=by
 have hn18:n.natAbs<1000000000000000000:=(za3 n 18 (by omega)).1 (zO (zbr n) h1)
 have hD18:D<1000000000000000000:=(zaf D 18 (by omega)).1 h2
 have hdl:(zD n.natAbs).length<=18:=(zaf _ 18 (by omega)).2 hn18
 have s1:=λW=>zdr (zD n.natAbs) (zan _) hdl W
 have s2:=λW=>zdr (zD D) (zan _) h2 W
 rw[zb2] at s1 s2
 have qk:=λW=>zhg n D (by omega) hD (by omega) W
 obtain⟨sn,hsn⟩:∃s:ByteArray,s=⟨(zE n).toArray⟩:=⟨_,rfl⟩
 obtain⟨sd,hsd⟩:∃s:ByteArray,s=⟨(zD D).toArray⟩:=⟨_,rfl⟩
 obtain⟨p1,p2,p3⟩:=zdn n sn hsn
 obtain⟨r1,r2⟩:=zft D sd hsd
 have l1:sn.size<=18:=by rw[hsn];exact h1
 have l2:sd.size<=18:=by rw[hsd];exact h2
 have l1':(sn.size:Int)<=18:=by omega
 have l2':(sd.size:Int)<=18:=by omega
 rw[decide_eq_false hm] at p2
 have hx:zE n=zD n.natAbs:=by rcases zbg n with⟨_,e⟩|⟨k,_⟩;exact e;omega
 have hw:(n:Int)=(n.natAbs:Int):=by omega
 rw[<-hx] at s1
 show zC _ _ #[.string ⟨(zE n).toArray⟩,.string ⟨(zD D).toArray⟩] _ _
 have s2':∀W:zA,zC zF 75 #[.string sd] W λe w'=>e=.returned (I D)/\w'=W:=λW=>by rw[hsd];exact s2 W
 have s1':∀W:zA,zC zF 75 #[.string sn] W λe w'=>e=.returned (I n.natAbs)/\w'=W:=λW=>by rw[hsn];exact s1 W
 have qk':∀W:zA,zC zF 212 #[I n.natAbs,I D] W λe w'=>e=.returned (St (numS (Rat.divInt n (D:Int))))/\zB W.heap.size W w':=λW=>by have:=qk W;rw[hw] at this;rw[hw];exact this
 rw[<-hsn,<-hsd]
 have S1:=hid s1';have S2:=hid s2';have QK:=hid qk'
 clear s1 s2 qk s1' s2' hsn hsd h1 h2 hdl p3 hx qk' hw
 generalize numS (Rat.divInt n (D:Int))=t at*
 generalize n.natAbs=na at*
 go_enter Tryz.func247,Tryz.ntmps247
 go_wp2_with fail
 refine(S1.out w).mono ?_
 rintro e w1 ⟨rfl,hw1⟩
 have hw1':=hw1.symm;subst hw1'
 go_wp2_with fail
 refine(S2.out w).mono ?_
 rintro e w2 ⟨rfl,hw2⟩
 have hw2':=hw2.symm;subst hw2'
 go_wp2_with fail
 refine(QK.out w).mono ?_
 rintro e w3 ⟨rfl,hb3⟩
 go_wp2_with fail
 go_ret2
 exact⟨rfl,hb3⟩
theorem zqd (n:Int) (D g d1:Nat) (q1:Int) (hD:0<D) (hg:g=Int.gcd n (D:Int)) (hq:n=q1*g) (hd:D=d1*g) (hm:n<0) (h1:d1=1) (hn3:digs n<=300) (hd3:(zD D).length<=300) (hor:18<(zE n).length\/((zE n).length<=18/\18<(zD D).length)) (w:zA) (hw:Wd w):
 zC zF 247 #[St (zE n),St (zD D)] w λe w'=>e=.returned (.tuple #[St (zE q1++[]),.int .i64 0])/\zB w.heap.size w w':=by
 have hg0:0<g:=by rw[hg];exact Int.gcd_pos_of_ne_zero_right _ (by omega)
 have hd10:0<d1:=yS (λe=>by rw[e,Nat.zero_mul] at hd;omega)
 have hgd:(zD g).length<=300:=by
  rw[zaf _ _ (by omega)] at hd3⊢
  have:g<=D:=by rw[hd];exact Nat.le_mul_of_pos_left _ hd10
  exact Nat.lt_of_le_of_lt this hd3
 have hq3:digs q1<=300:=by
  rw[za3 _ _ (by omega)] at hn3⊢
  have:q1.natAbs<=n.natAbs:=by rw[hq,yK];exact Nat.le_mul_of_pos_right _ (by omega)
  exact Nat.lt_of_le_of_lt this hn3
 have hd13:(zD d1).length<=300:=by
  rw[zaf _ _ (by omega)] at hd3⊢
  have:d1<=D:=by rw[hd];exact Nat.le_mul_of_pos_right _ hg0
  exact Nat.lt_of_le_of_lt this hd3
 have dg:∀k:Nat,digs (k:Int)=(zD k).length:=λk=>by unfold digs;rw[Int.natAbs_natCast]
 have yg:=λW hW=>zgm n (D:Int) hn3 (by rw[dg];exact hd3) W hW
 have y1:=λW hW=>zcq n (g:Int) q1 hq (by omega) hn3 (by rw[dg];exact hgd) W hW
 have y2:=λW hW=>zcq (D:Int) (g:Int) (d1:Int) (by rw[hd,Int.natCast_mul]) (by omega) (by rw[dg];exact hd3) (by rw[dg];exact hgd) W hW
 rw[<-hg] at yg
 rw[Str.zad,Str.zad] at yg y2
 rw[Str.zad] at y1 y2
 have hqm:q1<0:=by
  have hgi:(0:Int)<g:=by omega
  rcases Int.lt_or_le q1 0 with k|k
  ·exact k
  ·have:=Int.mul_nonneg k (Int.le_of_lt hgi);omega
 obtain⟨sn,hsn⟩:∃s:ByteArray,s=⟨(zE n).toArray⟩:=⟨_,rfl⟩
 obtain⟨sd,hsd⟩:∃s:ByteArray,s=⟨(zD D).toArray⟩:=⟨_,rfl⟩
 obtain⟨sq,hsq⟩:∃s:ByteArray,s=⟨(zE q1).toArray⟩:=⟨_,rfl⟩
 obtain⟨r1,r2⟩:=zft D sd hsd
 obtain⟨p1,p2,p3⟩:=zdn q1 sq hsq
 rw[decide_eq_true hqm] at p2
 have hsz:sn.size=(zE n).length:=by rw[hsn];rfl
 have hszd:sd.size=(zD D).length:=by rw[hsd];rfl
 have hszq:sq.size<=301:=by
  have:sq.size=(zE q1).length:=by rw[hsq];rfl
  have:=za7 q1;omega
 have hx:=p3 hqm
 obtain⟨su,hsu⟩:∃s:ByteArray,s=⟨(zD q1.natAbs).toArray⟩:=⟨_,rfl⟩
 rw[<-hsu] at hx
 have hsu3:su.size<=300:=by rw[hsu];exact hq3
 have j1:¬(300:Int)<su.size:=by omega
 have yg':∀W:zA,Wd W->zC zF 76 #[.string sn,.string sd] W λe w'=>e=.returned (.tuple #[St (zD g),.int .i64 0])/\zB W.heap.size W w':=λW hW=>by rw[hsn,hsd];exact yg W hW
 have y1':∀W:zA,Wd W->zC zF 266 #[.string sn,St (zD g)] W λe w'=>e=.returned (.tuple #[.string sq,St [48],.int .i64 0])/\zB W.heap.size W w':=λW hW=>by rw[hsn,hsq];exact y1 W hW
 have y2':∀W:zA,Wd W->zC zF 266 #[.string sd,St (zD g)] W λe w'=>e=.returned (.tuple #[St (zD d1),St [48],.int .i64 0])/\zB W.heap.size W w':=λW hW=>by rw[hsd];exact y2 W hW
 rw[h1,show zD 1=[49] by decide+kernel] at y2'
 show zC _ _ #[.string ⟨(zE n).toArray⟩,.string ⟨(zD D).toArray⟩] _ _
 rw[<-hsn,<-hsd]
 rw[<-hsz,<-hszd] at hor
 have YG:=hid yg';have Y1:=hid y1';have Y2:=hid y2';have HW:=hid hw;have HSQ:=hid hsq
 clear yg y1 y2 yg' y1' y2' hw hsn hsd hsz hszd hg hq hd hm hn3 hd3 hg0 hgd hd10 hq3 dg hqm p3 hsq hsu hsu3 h1
 generalize zD g=gl at*
 generalize zD d1=dl at*
 go_enter Tryz.func247,Tryz.ntmps247
 rcases hor with k1|⟨k1,k2⟩
 ·have k1':¬(sn.size:Int)<=18:=by omega
  go_wp2_with fail
  refine(YG.out w HW.out).mono ?_
  rintro e w1 ⟨rfl,hb1⟩
  have HB1:=hid hb1;clear hb1
  go_wp2_with fail
  refine(Y1.out w1 (HW.out.below HB1.out)).mono ?_
  rintro e w2 ⟨rfl,hb2⟩
  have HB2:=hid (HB1.out.trans (hb2.mono HB1.out.size));clear hb2
  go_wp2_with fail
  refine(Y2.out w2 (HW.out.below HB2.out)).mono ?_
  rintro e w3 ⟨rfl,hb3⟩
  have HB3:=hid (HB2.out.trans (hb3.mono HB2.out.size));clear hb3
  go_wp2_with fail
  go_ret2
  refine⟨?_,HB3.out⟩
  show Ending.returned (.tuple #[.string sq,.int .i64 0])=_
  rw[HSQ.out,yH]
 ·have k1':(sn.size:Int)<=18:=by omega
  have k2':¬(sd.size:Int)<=18:=by omega
  go_wp2_with fail
  refine(YG.out w HW.out).mono ?_
  rintro e w1 ⟨rfl,hb1⟩
  have HB1:=hid hb1;clear hb1
  go_wp2_with fail
  refine(Y1.out w1 (HW.out.below HB1.out)).mono ?_
  rintro e w2 ⟨rfl,hb2⟩
  have HB2:=hid (HB1.out.trans (hb2.mono HB1.out.size));clear hb2
  go_wp2_with fail
  refine(Y2.out w2 (HW.out.below HB2.out)).mono ?_
  rintro e w3 ⟨rfl,hb3⟩
  have HB3:=hid (HB2.out.trans (hb3.mono HB2.out.size));clear hb3
  go_wp2_with fail
  go_ret2
  refine⟨?_,HB3.out⟩
  show Ending.returned (.tuple #[.string sq,.int .i64 0])=_
  rw[HSQ.out,yH]
theorem zqe (n:Int) (D g d1:Nat) (q1:Int) (hD:0<D) (hg:g=Int.gcd n (D:Int)) (hq:n=q1*g) (hd:D=d1*g) (hm:n<0) (h1:d1≠1) (hn3:digs n<=300) (hd3:(zD D).length<=300) (hor:18<(zE n).length\/((zE n).length<=18/\18<(zD D).length)) (w:zA) (hw:Wd w):
 zC zF 247 #[St (zE n),St (zD D)] w λe w'=>e=.returned (.tuple #[St (zE q1++47::zD d1),.int .i64 0])/\zB w.heap.size w w':=by
 have hg0:0<g:=by rw[hg];exact Int.gcd_pos_of_ne_zero_right _ (by omega)
 have hd10:0<d1:=yS (λe=>by rw[e,Nat.zero_mul] at hd;omega)
 have hgd:(zD g).length<=300:=by
  rw[zaf _ _ (by omega)] at hd3⊢
  have:g<=D:=by rw[hd];exact Nat.le_mul_of_pos_left _ hd10
  exact Nat.lt_of_le_of_lt this hd3
 have hq3:digs q1<=300:=by
  rw[za3 _ _ (by omega)] at hn3⊢
  have:q1.natAbs<=n.natAbs:=by rw[hq,yK];exact Nat.le_mul_of_pos_right _ (by omega)
  exact Nat.lt_of_le_of_lt this hn3
 have hd13:(zD d1).length<=300:=by
  rw[zaf _ _ (by omega)] at hd3⊢
  have:d1<=D:=by rw[hd];exact Nat.le_mul_of_pos_right _ hg0
  exact Nat.lt_of_le_of_lt this hd3
 have dg:∀k:Nat,digs (k:Int)=(zD k).length:=λk=>by unfold digs;rw[Int.natAbs_natCast]
 have yg:=λW hW=>zgm n (D:Int) hn3 (by rw[dg];exact hd3) W hW
 have y1:=λW hW=>zcq n (g:Int) q1 hq (by omega) hn3 (by rw[dg];exact hgd) W hW
 have y2:=λW hW=>zcq (D:Int) (g:Int) (d1:Int) (by rw[hd,Int.natCast_mul]) (by omega) (by rw[dg];exact hd3) (by rw[dg];exact hgd) W hW
 rw[<-hg] at yg
 rw[Str.zad,Str.zad] at yg y2
 rw[Str.zad] at y1 y2
 have hqm:q1<0:=by
  have hgi:(0:Int)<g:=by omega
  rcases Int.lt_or_le q1 0 with k|k
  ·exact k
  ·have:=Int.mul_nonneg k (Int.le_of_lt hgi);omega
 obtain⟨sn,hsn⟩:∃s:ByteArray,s=⟨(zE n).toArray⟩:=⟨_,rfl⟩
 obtain⟨sd,hsd⟩:∃s:ByteArray,s=⟨(zD D).toArray⟩:=⟨_,rfl⟩
 obtain⟨sq,hsq⟩:∃s:ByteArray,s=⟨(zE q1).toArray⟩:=⟨_,rfl⟩
 obtain⟨r1,r2⟩:=zft D sd hsd
 obtain⟨p1,p2,p3⟩:=zdn q1 sq hsq
 rw[decide_eq_true hqm] at p2
 have hsz:sn.size=(zE n).length:=by rw[hsn];rfl
 have hszd:sd.size=(zD D).length:=by rw[hsd];rfl
 have hszq:sq.size<=301:=by
  have:sq.size=(zE q1).length:=by rw[hsq];rfl
  have:=za7 q1;omega
 have hx:=p3 hqm
 obtain⟨su,hsu⟩:∃s:ByteArray,s=⟨(zD q1.natAbs).toArray⟩:=⟨_,rfl⟩
 rw[<-hsu] at hx
 have hsu3:su.size<=300:=by rw[hsu];exact hq3
 have j1:¬(300:Int)<su.size:=by omega
 have yg':∀W:zA,Wd W->zC zF 76 #[.string sn,.string sd] W λe w'=>e=.returned (.tuple #[St (zD g),.int .i64 0])/\zB W.heap.size W w':=λW hW=>by rw[hsn,hsd];exact yg W hW
 have y1':∀W:zA,Wd W->zC zF 266 #[.string sn,St (zD g)] W λe w'=>e=.returned (.tuple #[.string sq,St [48],.int .i64 0])/\zB W.heap.size W w':=λW hW=>by rw[hsn,hsq];exact y1 W hW
 have y2':∀W:zA,Wd W->zC zF 266 #[.string sd,St (zD g)] W λe w'=>e=.returned (.tuple #[St (zD d1),St [48],.int .i64 0])/\zB W.heap.size W w':=λW hW=>by rw[hsd];exact y2 W hW
 obtain⟨z5,z6⟩:=zd1 d1 1 h1 [49] (by decide+kernel)
 have j2:¬(300:Int)<(zD d1).length:=by omega
 have f1:¬(9223372036854775807<sq.size+1):=by omega
 have f2:¬(9223372036854775807<sq.size+1+(zD d1).length):=by omega
 show zC _ _ #[.string ⟨(zE n).toArray⟩,.string ⟨(zD D).toArray⟩] _ _
 rw[<-hsn,<-hsd]
 rw[<-hsz,<-hszd] at hor
 have YG:=hid yg';have Y1:=hid y1';have Y2:=hid y2';have HW:=hid hw;have HSQ:=hid hsq
 clear yg y1 y2 yg' y1' y2' hw hsn hsd hsz hszd hg hq hd hm hn3 hd3 hg0 hgd hd10 hq3 dg hqm p3 hsq hsu hsu3 h1
 generalize zD g=gl at*
 generalize zD d1=dl at*
 go_enter Tryz.func247,Tryz.ntmps247
 rcases hor with k1|⟨k1,k2⟩
 ·have k1':¬(sn.size:Int)<=18:=by omega
  go_wp2_with fail
  refine(YG.out w HW.out).mono ?_
  rintro e w1 ⟨rfl,hb1⟩
  have HB1:=hid hb1;clear hb1
  go_wp2_with fail
  refine(Y1.out w1 (HW.out.below HB1.out)).mono ?_
  rintro e w2 ⟨rfl,hb2⟩
  have HB2:=hid (HB1.out.trans (hb2.mono HB1.out.size));clear hb2
  go_wp2_with fail
  refine(Y2.out w2 (HW.out.below HB2.out)).mono ?_
  rintro e w3 ⟨rfl,hb3⟩
  have HB3:=hid (HB2.out.trans (hb3.mono HB2.out.size));clear hb3
  go_wp2_with fail
  go_ret2
  refine⟨?_,HB3.out⟩
  show Ending.returned (.tuple #[.string ((sq++⟨#[47]⟩)++⟨dl.toArray⟩),.int .i64 0])=_
  rw[HSQ.out,show(⟨#[47]⟩:ByteArray)=⟨([47]:List UInt8).toArray⟩ from rfl,zd3,zd3,yL]
  rfl
 ·have k1':(sn.size:Int)<=18:=by omega
  have k2':¬(sd.size:Int)<=18:=by omega
  go_wp2_with fail
  refine(YG.out w HW.out).mono ?_
  rintro e w1 ⟨rfl,hb1⟩
  have HB1:=hid hb1;clear hb1
  go_wp2_with fail
  refine(Y1.out w1 (HW.out.below HB1.out)).mono ?_
  rintro e w2 ⟨rfl,hb2⟩
  have HB2:=hid (HB1.out.trans (hb2.mono HB1.out.size));clear hb2
  go_wp2_with fail
  refine(Y2.out w2 (HW.out.below HB2.out)).mono ?_
  rintro e w3 ⟨rfl,hb3⟩
  have HB3:=hid (HB2.out.trans (hb3.mono HB2.out.size));clear hb3
  go_wp2_with fail
  go_ret2
  refine⟨?_,HB3.out⟩
  show Ending.returned (.tuple #[.string ((sq++⟨#[47]⟩)++⟨dl.toArray⟩),.int .i64 0])=_
  rw[HSQ.out,show(⟨#[47]⟩:ByteArray)=⟨([47]:List UInt8).toArray⟩ from rfl,zd3,zd3,yL]
  rfl
theorem zqf (n:Int) (D g d1:Nat) (q1:Int) (hD:0<D) (hg:g=Int.gcd n (D:Int)) (hq:n=q1*g) (hd:D=d1*g) (hm:¬n<0) (h1:d1=1) (hn3:digs n<=300) (hd3:(zD D).length<=300) (hor:18<(zE n).length\/((zE n).length<=18/\18<(zD D).length)) (w:zA) (hw:Wd w):
 zC zF 247 #[St (zE n),St (zD D)] w λe w'=>e=.returned (.tuple #[St (zE q1++[]),.int .i64 0])/\zB w.heap.size w w':=by
 have hg0:0<g:=by rw[hg];exact Int.gcd_pos_of_ne_zero_right _ (by omega)
 have hd10:0<d1:=yS (λe=>by rw[e,Nat.zero_mul] at hd;omega)
 have hgd:(zD g).length<=300:=by
  rw[zaf _ _ (by omega)] at hd3⊢
  have:g<=D:=by rw[hd];exact Nat.le_mul_of_pos_left _ hd10
  exact Nat.lt_of_le_of_lt this hd3
 have hq3:digs q1<=300:=by
  rw[za3 _ _ (by omega)] at hn3⊢
  have:q1.natAbs<=n.natAbs:=by rw[hq,yK];exact Nat.le_mul_of_pos_right _ (by omega)
  exact Nat.lt_of_le_of_lt this hn3
 have hd13:(zD d1).length<=300:=by
  rw[zaf _ _ (by omega)] at hd3⊢
  have:d1<=D:=by rw[hd];exact Nat.le_mul_of_pos_right _ hg0
  exact Nat.lt_of_le_of_lt this hd3
 have dg:∀k:Nat,digs (k:Int)=(zD k).length:=λk=>by unfold digs;rw[Int.natAbs_natCast]
 have yg:=λW hW=>zgm n (D:Int) hn3 (by rw[dg];exact hd3) W hW
 have y1:=λW hW=>zcq n (g:Int) q1 hq (by omega) hn3 (by rw[dg];exact hgd) W hW
 have y2:=λW hW=>zcq (D:Int) (g:Int) (d1:Int) (by rw[hd,Int.natCast_mul]) (by omega) (by rw[dg];exact hd3) (by rw[dg];exact hgd) W hW
 rw[<-hg] at yg
 rw[Str.zad,Str.zad] at yg y2
 rw[Str.zad] at y1 y2
 have hqm:¬q1<0:=by
  have hgi:(0:Int)<g:=by omega
  intro k
  have:=Int.mul_neg_of_neg_of_pos k hgi;omega
 obtain⟨sn,hsn⟩:∃s:ByteArray,s=⟨(zE n).toArray⟩:=⟨_,rfl⟩
 obtain⟨sd,hsd⟩:∃s:ByteArray,s=⟨(zD D).toArray⟩:=⟨_,rfl⟩
 obtain⟨sq,hsq⟩:∃s:ByteArray,s=⟨(zE q1).toArray⟩:=⟨_,rfl⟩
 obtain⟨r1,r2⟩:=zft D sd hsd
 obtain⟨p1,p2,p3⟩:=zdn q1 sq hsq
 rw[decide_eq_false hqm] at p2
 have hsz:sn.size=(zE n).length:=by rw[hsn];rfl
 have hszd:sd.size=(zD D).length:=by rw[hsd];rfl
 have hszq:sq.size<=301:=by
  have:sq.size=(zE q1).length:=by rw[hsq];rfl
  have:=za7 q1;omega
 have hsq3:sq.size<=300:=by
  have e:zE q1=zD q1.natAbs:=by rcases zbg q1 with⟨_,e⟩|⟨k,_⟩;exact e;exact absurd k hqm
  rw[hsq,e];exact hq3
 have j1:¬(300:Int)<sq.size:=by omega
 have yg':∀W:zA,Wd W->zC zF 76 #[.string sn,.string sd] W λe w'=>e=.returned (.tuple #[St (zD g),.int .i64 0])/\zB W.heap.size W w':=λW hW=>by rw[hsn,hsd];exact yg W hW
 have y1':∀W:zA,Wd W->zC zF 266 #[.string sn,St (zD g)] W λe w'=>e=.returned (.tuple #[.string sq,St [48],.int .i64 0])/\zB W.heap.size W w':=λW hW=>by rw[hsn,hsq];exact y1 W hW
 have y2':∀W:zA,Wd W->zC zF 266 #[.string sd,St (zD g)] W λe w'=>e=.returned (.tuple #[St (zD d1),St [48],.int .i64 0])/\zB W.heap.size W w':=λW hW=>by rw[hsd];exact y2 W hW
 rw[h1,show zD 1=[49] by decide+kernel] at y2'
 show zC _ _ #[.string ⟨(zE n).toArray⟩,.string ⟨(zD D).toArray⟩] _ _
 rw[<-hsn,<-hsd]
 rw[<-hsz,<-hszd] at hor
 have YG:=hid yg';have Y1:=hid y1';have Y2:=hid y2';have HW:=hid hw;have HSQ:=hid hsq
 clear yg y1 y2 yg' y1' y2' hw hsn hsd hsz hszd hg hq hd hm hn3 hd3 hg0 hgd hd10 hq3 dg hqm p3 hsq hsq3 h1
 generalize zD g=gl at*
 generalize zD d1=dl at*
 go_enter Tryz.func247,Tryz.ntmps247
 rcases hor with k1|⟨k1,k2⟩
 ·have k1':¬(sn.size:Int)<=18:=by omega
  go_wp2_with fail
  refine(YG.out w HW.out).mono ?_
  rintro e w1 ⟨rfl,hb1⟩
  have HB1:=hid hb1;clear hb1
  go_wp2_with fail
  refine(Y1.out w1 (HW.out.below HB1.out)).mono ?_
  rintro e w2 ⟨rfl,hb2⟩
  have HB2:=hid (HB1.out.trans (hb2.mono HB1.out.size));clear hb2
  go_wp2_with fail
  refine(Y2.out w2 (HW.out.below HB2.out)).mono ?_
  rintro e w3 ⟨rfl,hb3⟩
  have HB3:=hid (HB2.out.trans (hb3.mono HB2.out.size));clear hb3
  go_wp2_with fail
  go_ret2
  refine⟨?_,HB3.out⟩
  show Ending.returned (.tuple #[.string sq,.int .i64 0])=_
  rw[HSQ.out,yH]
 ·have k1':(sn.size:Int)<=18:=by omega
  have k2':¬(sd.size:Int)<=18:=by omega
  go_wp2_with fail
  refine(YG.out w HW.out).mono ?_
  rintro e w1 ⟨rfl,hb1⟩
  have HB1:=hid hb1;clear hb1
  go_wp2_with fail
  refine(Y1.out w1 (HW.out.below HB1.out)).mono ?_
  rintro e w2 ⟨rfl,hb2⟩
  have HB2:=hid (HB1.out.trans (hb2.mono HB1.out.size));clear hb2
  go_wp2_with fail
  refine(Y2.out w2 (HW.out.below HB2.out)).mono ?_
  rintro e w3 ⟨rfl,hb3⟩
  have HB3:=hid (HB2.out.trans (hb3.mono HB2.out.size));clear hb3
  go_wp2_with fail
  go_ret2
  refine⟨?_,HB3.out⟩
  show Ending.returned (.tuple #[.string sq,.int .i64 0])=_
  rw[HSQ.out,yH]
theorem zqg (n:Int) (D g d1:Nat) (q1:Int) (hD:0<D) (hg:g=Int.gcd n (D:Int)) (hq:n=q1*g) (hd:D=d1*g) (hm:¬n<0) (h1:d1≠1) (hn3:digs n<=300) (hd3:(zD D).length<=300) (hor:18<(zE n).length\/((zE n).length<=18/\18<(zD D).length)) (w:zA) (hw:Wd w):
 zC zF 247 #[St (zE n),St (zD D)] w λe w'=>e=.returned (.tuple #[St (zE q1++47::zD d1),.int .i64 0])/\zB w.heap.size w w':=by
 have hg0:0<g:=by rw[hg];exact Int.gcd_pos_of_ne_zero_right _ (by omega)
 have hd10:0<d1:=yS (λe=>by rw[e,Nat.zero_mul] at hd;omega)
 have hgd:(zD g).length<=300:=by
  rw[zaf _ _ (by omega)] at hd3⊢
  have:g<=D:=by rw[hd];exact Nat.le_mul_of_pos_left _ hd10
  exact Nat.lt_of_le_of_lt this hd3
 have hq3:digs q1<=300:=by
  rw[za3 _ _ (by omega)] at hn3⊢
  have:q1.natAbs<=n.natAbs:=by rw[hq,yK];exact Nat.le_mul_of_pos_right _ (by omega)
  exact Nat.lt_of_le_of_lt this hn3
 have hd13:(zD d1).length<=300:=by
  rw[zaf _ _ (by omega)] at hd3⊢
  have:d1<=D:=by rw[hd];exact Nat.le_mul_of_pos_right _ hg0
  exact Nat.lt_of_le_of_lt this hd3
 have dg:∀k:Nat,digs (k:Int)=(zD k).length:=λk=>by unfold digs;rw[Int.natAbs_natCast]
 have yg:=λW hW=>zgm n (D:Int) hn3 (by rw[dg];exact hd3) W hW
 have y1:=λW hW=>zcq n (g:Int) q1 hq (by omega) hn3 (by rw[dg];exact hgd) W hW
 have y2:=λW hW=>zcq (D:Int) (g:Int) (d1:Int) (by rw[hd,Int.natCast_mul]) (by omega) (by rw[dg];exact hd3) (by rw[dg];exact hgd) W hW
 rw[<-hg] at yg
 rw[Str.zad,Str.zad] at yg y2
 rw[Str.zad] at y1 y2
 have hqm:¬q1<0:=by
  have hgi:(0:Int)<g:=by omega
  intro k
  have:=Int.mul_neg_of_neg_of_pos k hgi;omega
 obtain⟨sn,hsn⟩:∃s:ByteArray,s=⟨(zE n).toArray⟩:=⟨_,rfl⟩
 obtain⟨sd,hsd⟩:∃s:ByteArray,s=⟨(zD D).toArray⟩:=⟨_,rfl⟩
 obtain⟨sq,hsq⟩:∃s:ByteArray,s=⟨(zE q1).toArray⟩:=⟨_,rfl⟩
 obtain⟨r1,r2⟩:=zft D sd hsd
 obtain⟨p1,p2,p3⟩:=zdn q1 sq hsq
 rw[decide_eq_false hqm] at p2
 have hsz:sn.size=(zE n).length:=by rw[hsn];rfl
 have hszd:sd.size=(zD D).length:=by rw[hsd];rfl
 have hszq:sq.size<=301:=by
  have:sq.size=(zE q1).length:=by rw[hsq];rfl
  have:=za7 q1;omega
 have hsq3:sq.size<=300:=by
  have e:zE q1=zD q1.natAbs:=by rcases zbg q1 with⟨_,e⟩|⟨k,_⟩;exact e;exact absurd k hqm
  rw[hsq,e];exact hq3
 have j1:¬(300:Int)<sq.size:=by omega
 have yg':∀W:zA,Wd W->zC zF 76 #[.string sn,.string sd] W λe w'=>e=.returned (.tuple #[St (zD g),.int .i64 0])/\zB W.heap.size W w':=λW hW=>by rw[hsn,hsd];exact yg W hW
 have y1':∀W:zA,Wd W->zC zF 266 #[.string sn,St (zD g)] W λe w'=>e=.returned (.tuple #[.string sq,St [48],.int .i64 0])/\zB W.heap.size W w':=λW hW=>by rw[hsn,hsq];exact y1 W hW
 have y2':∀W:zA,Wd W->zC zF 266 #[.string sd,St (zD g)] W λe w'=>e=.returned (.tuple #[St (zD d1),St [48],.int .i64 0])/\zB W.heap.size W w':=λW hW=>by rw[hsd];exact y2 W hW
 obtain⟨z5,z6⟩:=zd1 d1 1 h1 [49] (by decide+kernel)
 have j2:¬(300:Int)<(zD d1).length:=by omega
 have f1:¬(9223372036854775807<sq.size+1):=by omega
 have f2:¬(9223372036854775807<sq.size+1+(zD d1).length):=by omega
 show zC _ _ #[.string ⟨(zE n).toArray⟩,.string ⟨(zD D).toArray⟩] _ _
 rw[<-hsn,<-hsd]
 rw[<-hsz,<-hszd] at hor
 have YG:=hid yg';have Y1:=hid y1';have Y2:=hid y2';have HW:=hid hw;have HSQ:=hid hsq
 clear yg y1 y2 yg' y1' y2' hw hsn hsd hsz hszd hg hq hd hm hn3 hd3 hg0 hgd hd10 hq3 dg hqm p3 hsq hsq3 h1
 generalize zD g=gl at*
 generalize zD d1=dl at*
 go_enter Tryz.func247,Tryz.ntmps247
 rcases hor with k1|⟨k1,k2⟩
 ·have k1':¬(sn.size:Int)<=18:=by omega
  go_wp2_with fail
  refine(YG.out w HW.out).mono ?_
  rintro e w1 ⟨rfl,hb1⟩
  have HB1:=hid hb1;clear hb1
  go_wp2_with fail
  refine(Y1.out w1 (HW.out.below HB1.out)).mono ?_
  rintro e w2 ⟨rfl,hb2⟩
  have HB2:=hid (HB1.out.trans (hb2.mono HB1.out.size));clear hb2
  go_wp2_with fail
  refine(Y2.out w2 (HW.out.below HB2.out)).mono ?_
  rintro e w3 ⟨rfl,hb3⟩
  have HB3:=hid (HB2.out.trans (hb3.mono HB2.out.size));clear hb3
  go_wp2_with fail
  go_ret2
  refine⟨?_,HB3.out⟩
  show Ending.returned (.tuple #[.string ((sq++⟨#[47]⟩)++⟨dl.toArray⟩),.int .i64 0])=_
  rw[HSQ.out,show(⟨#[47]⟩:ByteArray)=⟨([47]:List UInt8).toArray⟩ from rfl,zd3,zd3,yL]
  rfl
 ·have k1':(sn.size:Int)<=18:=by omega
  have k2':¬(sd.size:Int)<=18:=by omega
  go_wp2_with fail
  refine(YG.out w HW.out).mono ?_
  rintro e w1 ⟨rfl,hb1⟩
  have HB1:=hid hb1;clear hb1
  go_wp2_with fail
  refine(Y1.out w1 (HW.out.below HB1.out)).mono ?_
  rintro e w2 ⟨rfl,hb2⟩
  have HB2:=hid (HB1.out.trans (hb2.mono HB1.out.size));clear hb2
  go_wp2_with fail
  refine(Y2.out w2 (HW.out.below HB2.out)).mono ?_
  rintro e w3 ⟨rfl,hb3⟩
  have HB3:=hid (HB2.out.trans (hb3.mono HB2.out.size));clear hb3
  go_wp2_with fail
  go_ret2
  refine⟨?_,HB3.out⟩
  show Ending.returned (.tuple #[.string ((sq++⟨#[47]⟩)++⟨dl.toArray⟩),.int .i64 0])=_
  rw[HSQ.out,show(⟨#[47]⟩:ByteArray)=⟨([47]:List UInt8).toArray⟩ from rfl,zd3,zd3,yL]
  rfl
end Go.Proofs.YtlaccnphhomdgaaGreatDoor
