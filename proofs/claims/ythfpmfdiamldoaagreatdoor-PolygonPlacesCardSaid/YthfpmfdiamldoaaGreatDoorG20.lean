/- kingpostref02: split, parts, ints, small, products, Check at canonical numerals of any length. -/
import Derived.Test.YthfpmfdiamldoaaGreatDoorG19
set_option maxRecDepth 100000
set_option maxHeartbeats 8000000
open Go renaming World → zA, Calls → zC
open Go.Lib renaming decDigits → zD, itoa → zE
open Go.Proofs.Tryz renaming prog → zF
open Go.IntWalk renaming i64_in → zI
open Nat renaming le_trans → zO, lt_of_lt_of_le → zS, pow_le_pow_right → yF, pos_of_ne_zero → yS
open List renaming getElem_mem → zY, append_nil → yH, append_assoc → yL
open Int renaming natAbs_mul → yK
namespace Go.Proofs.YthfpmfdiamldoaaGreatDoor
open Go.RowKit Go.Shelf Lib Str Limb
attribute [local go_sem] Oper.semAt_some
theorem zdr (l:List UInt8) (hd:∀c∈l,48<=c.toNat/\c.toNat<=57) (hl:l.length<=18) (w:zA):
 zC zF 108 #[St l] w λe w'=>e=.returned (I (val l))/\w'=w:=by
 obtain⟨s,hs⟩:∃s:ByteArray,s=⟨l.toArray⟩:=⟨_,rfl⟩
 obtain⟨b1,b2⟩:=zdd l s hs
 have hvt:=λk hk=>zg3 (l:=l) hd (k:=k) hk
 have hst:∀k (hb:k<s.size),48<=(s[k]'hb).toNat/\(s[k]'hb).toNat<=57/\val (l.take (k+1))=10*val (l.take k)+((s[k]'hb).toNat-48):=λk hb=>by
  have hk:k<l.length:=by omega
  rw[b2 k hk hb,List.take_succ_eq_append_getElem hk,zde]
  exact⟨(hd _ (zY hk)).1,(hd _ (zY hk)).2,rfl⟩
 have hfull:val (l.take s.size)=val l:=by rw[b1,List.take_length]
 show zC _ _ #[.string ⟨l.toArray⟩] _ _
 rw[<-hs]
 have hs9:s.size<=18:=by omega
 generalize hvf:(λk=>val (l.take k))=vf at*
 have hvt':∀k,k<=17->vf k<100000000000000000:=by rw[<-hvf];exact hvt
 have hst':∀k (hb:k<s.size),48<=(s[k]'hb).toNat/\(s[k]'hb).toNat<=57/\vf (k+1)=10*vf k+((s[k]'hb).toNat-48):=by rw[<-hvf];exact hst
 have hfull':vf s.size=val l:=by rw[<-hvf];exact hfull
 have hv0:vf 0=0:=by rw[<-hvf];rfl
 generalize val l=vl at*
 have VT:=hid hvt';have ST:=hid hst';have HF:=hid hfull';have V0:=hid hv0
 clear hvt' hst' hfull' hv0 hvt hst hfull hvf b1 b2 hs hd hl
 go_enter Tryz.func108,Tryz.ntmps108
 go_wp2
 go_loop [3,4] (λa i=>∃k:Nat,k<=s.size/\i=.int .i64 k/\a=.int .i64 (vf k:Nat)) (λ_ i=>s.size-(RowKit.intOf i).toNat)
 case atStart=>exact⟨0,Nat.zero_le _,rfl,by rw[V0.out];rfl⟩
 case round=>
  obtain⟨k,hk,rfl,rfl⟩:=hrel
  by_cases hlt:k<s.size
  ·obtain⟨c1,c2,c3⟩:=ST.out k hlt
   have hv:=VT.out k (by omega)
   generalize vf k=v at*
   have C3:=hid c3;clear c3
   have d1:(48:Int)<=(s[k].toNat:Int):=by omega
   have d2:(s[k].toNat:Int)<=57:=by omega
   go_wp2
   go_round
   case rel=>exact⟨k+1,by omega,by go_num,by rw[C3.out];show Value.int .i64 _=Value.int .i64 _;congr 1;omega⟩
   case measure=>simp[RowKit.intOf];omega
  ·have hk':k=s.size:=by omega
   have HK:=hid hk';clear hk'
   go_wp2
   go_ret
   exact⟨by rw[HK.out,HF.out];rfl,rfl⟩
theorem zr5 (n:Nat) (t:List UInt8):(zD n++47::t).takeWhile (· !=47)=zD n/\((zD n++47::t).dropWhile (· !=47)).tail=t:=by
 have h:∀c∈zD n,(c !=47)=true:=λc hc=>by
  have:=zan n c hc
  simp;intro e;subst e;simp at this
 constructor
 ·rw[List.takeWhile_append_of_pos h];simp
 ·rw[List.dropWhile_append_of_pos h];simp
theorem zpg (n:Nat):(zD n).takeWhile (· !=47)=zD n/\((zD n).dropWhile (· !=47)).tail=[]:=by
 have h:∀c∈zD n,(c !=47)=true:=λc hc=>by
  have:=zan n c hc
  simp;intro e;subst e;simp at this
 constructor
 ·have:=List.takeWhile_append_of_pos (p:=λx:UInt8=>x !=47) (l₁:=zD n) (l₂:=[]) h
  simpa using this
 ·have:=List.dropWhile_append_of_pos (p:=λx:UInt8=>x !=47) (l₁:=zD n) (l₂:=[]) h
  rw[yH] at this
  rw[this];rfl
def denS (q:Rat):List UInt8:=if q.den=1 then[] else zD q.den
theorem zph (q:Rat):upS (numS q)=zD q.num.natAbs/\dnS (numS q)=denS q/\((numS q).head? =some 45↔q.num<0)/\((47:UInt8)∈bare (numS q)↔q.den≠1):=by
 have hb:bare (numS q)=zD q.num.natAbs++(if q.den=1 then[] else 47::zD q.den):=zk1 _ _
 unfold upS dnS denS
 rw[hb]
 refine⟨?_,?_,zk2 _ _,?_⟩
 ·by_cases h:q.den=1
  ·rw[if_pos h,yH];exact(zpg _).1
  ·rw[if_neg h];exact(zr5 _ _).1
 ·by_cases h:q.den=1
  ·rw[if_pos h,if_pos h,yH];exact(zpg _).2
  ·rw[if_neg h,if_neg h];exact(zr5 _ _).2
 ·by_cases h:q.den=1
  ·rw[if_pos h,yH]
   exact⟨λk=>absurd k (zdz _),λk=>absurd h k⟩
  ·rw[if_neg h]
   exact⟨λ_=>h,λ_=>by simp⟩
def okN (q:Rat):Prop:=digs q.num<=300/\(zD q.den).length<=300
theorem zuc {q:Rat} (h:okN q):(numS q).length<=1000:=by
 have h1:=za7 q.num
 obtain⟨h2,h3⟩:=h
 unfold numS
 rw[List.length_append]
 split
 ·simp;omega
 ·simp;omega
theorem zc9 (q:Rat) (h:okN q) (w:zA):
 qJ 105 #[St (numS q)] w (.tuple #[.bool (decide (q.num<0)),St (zD q.num.natAbs),St (denS q),.bool (decide (q.den≠1))]):=by
 obtain⟨h1,h2,h3,h4⟩:=zph q
 have hc:=zn0 (numS q) (zO (zuc h) (by omega)) w
 rw[h1,h2,show decide ((numS q).head? =some 45)=decide (q.num<0) by rw[decide_eq_decide];exact h3,show decide ((47:UInt8)∈bare (numS q))=decide (q.den≠1) by rw[decide_eq_decide];exact h4] at hc
 exact hc
theorem zee (q:Rat) (h:okN q) (w:zA):
 qJ 147 #[St (numS q)] w (.tuple #[St (zE q.num),St (zD q.den)]):=by
 have hc:=zc9 q h w
 have hl:(zD q.num.natAbs).length<=300:=h.1
 have hn:zE q.num=if q.num<0 then 45::zD q.num.natAbs else zD q.num.natAbs:=by
  rcases zbg q.num with⟨k,e⟩|⟨k,e⟩<;>rw[e]
  ·rw[if_neg (by omega)]
  ·rw[if_pos k]
 have hd:q.den=1->zD q.den=[49]:=λe=>by rw[e];decide+kernel
 have hd2:q.den≠1->denS q=zD q.den:=λe=>by unfold denS;rw[if_neg e]
 have HC:=hid hc
 have HN:=hid hn;have HD:=hid hd;have HD2:=hid hd2
 clear hc hn hd hd2 h
 generalize zD q.num.natAbs=a at*
 generalize numS q=s at*
 have f1:¬(9223372036854775807<1+a.length):=by omega
 by_cases hm:q.num<0<;>by_cases h1:q.den=1
 ·rw[decide_eq_true hm,decide_eq_false (by simpa using h1)] at HC
  rw[if_pos hm] at HN
  have hdd:=HD.out h1
  clear hm h1 HD HD2
  rw[hdd]
  clear hdd
  generalize zE q.num=nn at*
  generalize zD q.den=dd at*
  generalize denS q=ds at*
  go_enter Tryz.func147,Tryz.ntmps147
  go_wp2_with fail
  refine HC.out.mono ?_
  rintro e w1 ⟨rfl,hb⟩
  go_wp2_with fail
  go_ret2
  refine⟨?_,hb⟩
  rw[HN.out]
  show Ending.returned (.tuple #[.string (_++_),.string _])=_
  rw[zhf]
 ·rw[decide_eq_true hm,decide_eq_true (by simpa using h1)] at HC
  rw[if_pos hm] at HN
  have hdd:=HD2.out h1
  rw[hdd] at HC
  clear hm h1 HD HD2 hdd
  generalize zE q.num=nn at*
  generalize zD q.den=dd at*
  generalize denS q=ds at*
  go_enter Tryz.func147,Tryz.ntmps147
  go_wp2_with fail
  refine HC.out.mono ?_
  rintro e w1 ⟨rfl,hb⟩
  go_wp2_with fail
  go_ret2
  refine⟨?_,hb⟩
  rw[HN.out]
  show Ending.returned (.tuple #[.string (_++_),.string _])=_
  rw[zhf]
 ·rw[decide_eq_false hm,decide_eq_false (by simpa using h1)] at HC
  rw[if_neg hm] at HN
  have hdd:=HD.out h1
  clear hm h1 HD HD2
  rw[hdd]
  clear hdd
  generalize zE q.num=nn at*
  generalize zD q.den=dd at*
  generalize denS q=ds at*
  go_enter Tryz.func147,Tryz.ntmps147
  go_wp2_with fail
  refine HC.out.mono ?_
  rintro e w1 ⟨rfl,hb⟩
  go_wp2_with fail
  go_ret2
  exact⟨by rw[HN.out];rfl,hb⟩
 ·rw[decide_eq_false hm,decide_eq_true (by simpa using h1)] at HC
  rw[if_neg hm] at HN
  have hdd:=HD2.out h1
  rw[hdd] at HC
  clear hm h1 HD HD2 hdd
  generalize zE q.num=nn at*
  generalize zD q.den=dd at*
  generalize denS q=ds at*
  go_enter Tryz.func147,Tryz.ntmps147
  go_wp2_with fail
  refine HC.out.mono ?_
  rintro e w1 ⟨rfl,hb⟩
  go_wp2_with fail
  go_ret2
  exact⟨by rw[HN.out];rfl,hb⟩
def zbc (q:Rat):Prop:=digs q.num<=9/\(zD q.den).length<=9
theorem zr6 (q:Rat):(denS q).length<=9↔(zD q.den).length<=9:=by
 unfold denS
 split
 ·rename_i h
  rw[h]
  have:(zD 1).length=1:=by decide+kernel
  simp[this]
 ·exact Iff.rfl
theorem zxr (q:Rat) (h:okN q) (hn:¬zbc q) (w:zA):
 qJ 146 #[St (numS q)] w (.tuple #[.int .i64 0,.int .i64 0,.bool false]):=by
 have hc:=zc9 q h w
 have hl1:(zD q.num.natAbs).length<=300:=h.1
 have hl2:(denS q).length<=300:=by unfold denS;split;exact Nat.zero_le _;exact h.2
 have hor:9<(zD q.num.natAbs).length\/((zD q.num.natAbs).length<=9/\9<(denS q).length):=by
  have:=zr6 q
  by_cases h1:(zD q.num.natAbs).length<=9
  ·right
   refine⟨h1,?_⟩
   rcases Nat.lt_or_ge 9 (denS q).length with h2|h2
   ·exact h2
   ·exact absurd ⟨h1,this.1 h2⟩ hn
  ·left;omega
 have HC:=hid hc
 clear hc h hn
 generalize zD q.num.natAbs=a at*
 generalize denS q=ds at*
 generalize numS q=s at*
 generalize decide (q.num<0)=mb at*
 generalize decide (q.den≠1)=db at*
 go_enter Tryz.func146,Tryz.ntmps146
 go_wp2_with fail
 refine HC.out.mono ?_
 rintro e w1 ⟨rfl,hb⟩
 rcases hor with h1|⟨h1,h2⟩
 ·have g1:(9:Int)<a.length:=by omega
  go_wp2_with fail
  go_ret3
  exact⟨rfl,hb⟩
 ·have g1:¬(9:Int)<a.length:=by omega
  have g2:(9:Int)<ds.length:=by omega
  go_wp2_with fail
  go_ret3
  exact⟨rfl,hb⟩
theorem zef (q:Rat) (h:okN q) (hn:zbc q) (w:zA):
 qJ 146 #[St (numS q)] w (.tuple #[.int .i64 q.num,.int .i64 (q.den:Int),.bool true]):=by
 have hc:=zc9 q h w
 have hl1:(zD q.num.natAbs).length<=9:=hn.1
 have hl2:(denS q).length<=9:=(zr6 q).2 hn.2
 have s1:=λW=>zdr (zD q.num.natAbs) (zan _) (by omega) W
 have s2:=λW=>zdr (zD q.den) (zan _) (by have:=hn.2;omega) W
 rw[zb2] at s1 s2
 have b1:q.num.natAbs<1000000000:=(zaf _ 9 (by omega)).1 hn.1
 have hd2:q.den≠1->denS q=zD q.den:=λe=>by unfold denS;rw[if_neg e]
 have HC:=hid hc;have S1:=hid s1;have S2:=hid s2;have HD2:=hid hd2
 obtain⟨a,ha⟩:∃a,a=q.num.natAbs:=⟨_,rfl⟩
 rw[<-ha] at HC S1 hl1 b1
 have g1:¬(9:Int)<(zD a).length:=by omega
 have g2:¬(9:Int)<(denS q).length:=by omega
 clear hc h hn s1 s2 hd2
 generalize zD a=da at*
 generalize numS q=s at*
 by_cases hm:q.num<0<;>by_cases h1:q.den=1
 ·rw[decide_eq_true hm,decide_eq_false (by simpa using h1)] at HC
  have hw:IntKind.i64.wrap (-(a:Int))=q.num:=by rw[show-(a:Int)=q.num by omega];exact zI _ (by omega)
  rw[h1]
  clear hm ha HD2 b1
  generalize q.num=nn at*
  generalize denS q=ds at*
  generalize q.den=den at*
  generalize zD den=dd at*
  go_enter Tryz.func146,Tryz.ntmps146
  go_wp2_with fail
  refine HC.out.mono ?_
  rintro e w1 ⟨rfl,hb⟩
  go_wp2_with fail
  refine(S1.out w1).mono ?_
  rintro e w2 ⟨rfl,hw2⟩
  have hw2':=hw2.symm;subst hw2'
  go_wp2_with fail
  go_ret3
  exact⟨rfl,hb⟩
 ·rw[decide_eq_true hm,decide_eq_true (by simpa using h1)] at HC
  have hw:IntKind.i64.wrap (-(a:Int))=q.num:=by rw[show-(a:Int)=q.num by omega];exact zI _ (by omega)
  rw[HD2.out h1] at HC g2 hl2
  clear hm ha HD2 b1
  generalize q.num=nn at*
  generalize denS q=ds at*
  generalize q.den=den at*
  generalize zD den=dd at*
  go_enter Tryz.func146,Tryz.ntmps146
  go_wp2_with fail
  refine HC.out.mono ?_
  rintro e w1 ⟨rfl,hb⟩
  go_wp2_with fail
  refine(S1.out w1).mono ?_
  rintro e w2 ⟨rfl,hw2⟩
  have hw2':=hw2.symm;subst hw2'
  go_wp2_with fail
  refine(S2.out w1).mono ?_
  rintro e w3 ⟨rfl,hw3⟩
  have hw3':=hw3.symm;subst hw3'
  go_wp2_with fail
  go_ret3
  exact⟨rfl,hb⟩
 ·rw[decide_eq_false hm,decide_eq_false (by simpa using h1)] at HC
  have hw:(q.num:Int)=(a:Int):=by omega
  rw[hw]
  rw[h1]
  clear hm ha HD2 b1 hw
  generalize q.num=nn at*
  generalize denS q=ds at*
  generalize q.den=den at*
  generalize zD den=dd at*
  go_enter Tryz.func146,Tryz.ntmps146
  go_wp2_with fail
  refine HC.out.mono ?_
  rintro e w1 ⟨rfl,hb⟩
  go_wp2_with fail
  refine(S1.out w1).mono ?_
  rintro e w2 ⟨rfl,hw2⟩
  have hw2':=hw2.symm;subst hw2'
  go_wp2_with fail
  go_ret3
  exact⟨rfl,hb⟩
 ·rw[decide_eq_false hm,decide_eq_true (by simpa using h1)] at HC
  have hw:(q.num:Int)=(a:Int):=by omega
  rw[hw]
  rw[HD2.out h1] at HC g2 hl2
  clear hm ha HD2 b1 hw
  generalize q.num=nn at*
  generalize denS q=ds at*
  generalize q.den=den at*
  generalize zD den=dd at*
  go_enter Tryz.func146,Tryz.ntmps146
  go_wp2_with fail
  refine HC.out.mono ?_
  rintro e w1 ⟨rfl,hb⟩
  go_wp2_with fail
  refine(S1.out w1).mono ?_
  rintro e w2 ⟨rfl,hw2⟩
  have hw2':=hw2.symm;subst hw2'
  go_wp2_with fail
  refine(S2.out w1).mono ?_
  rintro e w3 ⟨rfl,hw3⟩
  have hw3':=hw3.symm;subst hw3'
  go_wp2_with fail
  go_ret3
  exact⟨rfl,hb⟩
theorem zff (a b c d:Int) (ha:digs a<=300) (hb:digs b<=300) (hc:digs c<=300) (hd:digs d<=300) (hab:digs (a*b)<=300) (hcd:digs (c*d)<=300) (w:zA) (hw:Wd w):
 qJ 148 #[St (zE a),St (zE b),St (zE c),St (zE d)] w (.tuple #[St (zE (a*b)),St (zE (c*d)),.int .i64 0]):=by
 have c1:=λW hW=>zr2 a b ha hb hab W hW
 have c2:=λW hW=>zr2 c d hc hd hcd W hW
 have HW:=hid hw;have C1:=hid c1;have C2:=hid c2
 clear c1 c2 hw ha hb hc hd hab hcd
 generalize zE (a*b)=x at*
 generalize zE (c*d)=y at*
 generalize zE a=sa at*
 generalize zE b=sb at*
 generalize zE c=sc at*
 generalize zE d=sd at*
 go_enter Tryz.func148,Tryz.ntmps148
 go_wp2_with fail
 refine(C1.out w HW.out).mono ?_
 rintro e w1 ⟨rfl,hb1⟩
 have HB1:=hid hb1;clear hb1
 go_wp2_with fail
 refine(C2.out w1 (HW.out.below HB1.out)).mono ?_
 rintro e w2 ⟨rfl,hb2⟩
 have HB2:=qT HB1 hb2;clear hb2
 go_wp2_with fail
 go_ret3
 exact⟨rfl,HB2.out⟩
theorem ybf (x u v:ByteArray) (m sl b1 b2 z1 z2 z3:Bool) (hz:(300:Int)<u.size\/(¬(300:Int)<u.size/\(300:Int)<v.size))
 (e1:(v.toList==[48])=z1) (e2:(v.toList==[49])=z2) (e3:(u.toList==[48])=z3)
 (SP:Hid (∀W:zA,qJ 105 #[.string x] W (.tuple #[.bool m,.string u,.string v,.bool sl])))
 (D1:Hid (∀W:zA,zC zF 106 #[.string u] W λe w'=>e=.returned (.bool b1)/\w'=W))
 (D2:Hid (∀W:zA,zC zF 106 #[.string v] W λe w'=>e=.returned (.bool b2)/\w'=W))
 (w:zA):
 zC zF 57 #[.string x] w λe w'=>∃r:Int,e=.returned (.int .i64 r)/\r≠0/\Below w.heap.size w w':=by
 go_enter Tryz.func57,Tryz.ntmps57
 go_wp2_with fail
 refine(SP.out w).mono ?_
 rintro e w1 ⟨rfl,hB⟩
 go_wp2_with fail
 refine(D1.out w1).mono ?_
 rintro e w2 ⟨rfl,hw⟩
 have hw2:=hw.symm;subst hw2;clear hw
 cases b1
 ·go_wp2_with fail
  all_goals first|exact(zzU ‹_›).elim|skip
  go_ret
  exact⟨11,rfl,by decide,hB⟩
 ·cases sl
  ·cases m
   ·rcases hz with h|⟨h,h'⟩
    all_goals
     go_wp2_with fail
     all_goals first|exact(zzU ‹_›).elim|skip
     go_ret
     exact⟨4,rfl,by decide,hB⟩
   ·cases z3
    ·rcases hz with h|⟨h,h'⟩
     all_goals
      go_wp2_with fail
      all_goals first|exact(zzU ‹_›).elim|skip
      go_ret
      exact⟨4,rfl,by decide,hB⟩
    ·go_wp2_with fail
     all_goals first|exact(zzU ‹_›).elim|skip
     go_ret
     exact⟨11,rfl,by decide,hB⟩
  ·go_wp2_with fail
   all_goals first|exact(zzU ‹_›).elim|skip
   refine(D2.out _).mono ?_
   rintro e w2 ⟨rfl,hw⟩
   have hw2:=hw.symm;subst hw2;clear hw
   cases b2
   ·go_wp2_with fail
    all_goals first|exact(zzU ‹_›).elim|skip
    go_ret
    exact⟨11,rfl,by decide,hB⟩
   ·cases z1<;>cases z2<;>cases m<;>cases z3
    all_goals
     rcases hz with h|⟨h,h'⟩
     all_goals
      go_wp2_with fail
      all_goals first|exact(zzU ‹_›).elim|skip
      go_ret
      first|exact⟨4,rfl,by decide,hB⟩|exact⟨11,rfl,by decide,hB⟩
theorem z97 {q:Rat}:okQ q↔(upS (numS q)).length<=300/\(dnS (numS q)).length<=300:=by
 obtain⟨h1,h2,_,_⟩:=zph q
 rw[h1,h2]
 unfold okQ denS digs
 by_cases c:q.den=1
 ·rw[if_pos c,c,(z15 1).2 rfl];simp
 ·rw[if_neg c]
theorem zuj (l:List UInt8) (hl:l.length<=1000) (w:zA) (hw:Wd w):
 zC zF 57 #[St l] w λe w'=>∃r:Int,e=.returned (.int .i64 r)/\(r=0↔∃q,l=numS q/\okQ q)/\Below w.heap.size w w':=by
 classical
 have sz:∀k:List UInt8,(⟨k.toArray⟩:ByteArray).size=k.length:=λk=>by show k.toArray.size=_;simp
 have lb:(bare l).length<=1000:=by
  have h2:(bare l).length<=l.length:=by unfold bare;split<;>simp
  omega
 have lu:(upS l).length<=1000:=zO (List.takeWhile_sublist _).length_le lb
 have ld:(dnS l).length<=1000:=by
  have h1:((bare l).dropWhile (· !=47)).length<=(bare l).length:=(List.dropWhile_sublist _).length_le
  have h3:(dnS l).length=((bare l).dropWhile (· !=47)).length-1:=by unfold dnS;rw[List.length_tail]
  omega
 have hd:∀k:List UInt8,k.length<=1000->∀W,zC zF 106 #[.string ⟨k.toArray⟩] W (λe w'=>e=.returned (.bool (decide (zds k)))/\w'=W):=λk hk W=>by
  refine(zme k (by omega) W).mono ?_
  rintro e w' ⟨b,rfl,h,rfl⟩
  refine⟨?_,rfl⟩
  congr 2
  cases b
  ·rw[eq_comm,decide_eq_false_iff_not];intro h';exact absurd (h.2 h') (by simp)
  ·rw[eq_comm,decide_eq_true_iff];exact h.1 rfl
 have hok:(∃q,l=numS q/\okQ q)↔okS l/\(upS l).length<=300/\(dnS l).length<=300:=by
  rw[zlq]
  constructor
  ·rintro⟨q,rfl,h⟩;exact⟨⟨q,rfl⟩,z97.1 h⟩
  ·rintro⟨⟨q,rfl⟩,h⟩;exact⟨q,rfl,z97.2 h⟩
 by_cases hL:(upS l).length<=300/\(dnS l).length<=300
 ·obtain⟨hu,hv⟩:=hL
  have e:(∃q,l=numS q/\okQ q)↔okS l:=by rw[hok];exact⟨λh=>h.1,λh=>⟨h,hu,hv⟩⟩
  simp only[e]
  refine ztd ⟨l.toArray⟩ ⟨(upS l).toArray⟩ ⟨(dnS l).toArray⟩ (decide (l.head? =some 45)) (decide ((47:UInt8)∈bare l)) (decide (zds (upS l))) (decide (zds (dnS l))) (decide (dnS l=[48])) (decide (dnS l=[49])) (decide (upS l=[48]))
   (Nat.gcd (val (upS l)) (val (dnS l))) (okS l) (by rw[sz];exact hu) (by rw[sz];exact hv) (hid ?_) (zgl _ _ rfl _) (zgl _ _ rfl _) (zgl _ _ rfl _)
   (hid λW=>zn0 l (by omega) W) (hid λW=>hd _ lu W) (hid λW=>hd _ ld W) (hid λh1 h2 h3 h4=>?_) (hid λh1 h2=>?_) w (hid hw)
  ·rw[zxf]
   simp only[decide_eq_true_eq,decide_eq_false_iff_not,ne_eq]
  ·rw[sz] at h3 h4
   have n1:zds (upS l):=of_decide_eq_true h1
   have n2:zds (dnS l):=of_decide_eq_true h2
   refine⟨val (upS l),val (dnS l),λW=>znz _ n1.2.1 h3 W,λW=>znz _ n2.2.1 h4 W,λW=>?_⟩
   have b1:=zS (zjc _ n1.2.1) (yF (by omega) h3:10^(upS l).length<=10^9)
   have b2:=zS (zjc _ n2.2.1) (yF (by omega) h4:10^(dnS l).length<=10^9)
   refine(zzt _ _ (by omega) (by omega) W).mono ?_
   rintro e w' ⟨nd,rfl,rfl⟩
   exact⟨rfl,zao (Below.refl _ _) _⟩
  ·have n1:zds (upS l):=of_decide_eq_true h1
   have n2:zds (dnS l):=of_decide_eq_true h2
   refine⟨⟨(zD (Nat.gcd (val (upS l)) (val (dnS l)))).toArray⟩,?_,λW hW=>?_⟩
   ·rw[zgl _ _ rfl]
    exact decide_eq_decide.2 (z15 _)
   ·have:=zgm (val (upS l):Int) (val (dnS l):Int) (by unfold digs;rw[Int.natAbs_natCast,zeh n1];exact hu) (by unfold digs;rw[Int.natAbs_natCast,zeh n2];exact hv) W hW
    rw[Str.zad,Str.zad,Str.zad,zeh n1,zeh n2] at this
    exact this
 ·refine(ybf ⟨l.toArray⟩ ⟨(upS l).toArray⟩ ⟨(dnS l).toArray⟩ (decide (l.head? =some 45)) (decide ((47:UInt8)∈bare l)) (decide (zds (upS l))) (decide (zds (dnS l))) (decide (dnS l=[48])) (decide (dnS l=[49])) (decide (upS l=[48])) ?_ (zgl _ _ rfl _) (zgl _ _ rfl _) (zgl _ _ rfl _)
   (hid λW=>zn0 l (by omega) W) (hid λW=>hd _ lu W) (hid λW=>hd _ ld W) w).mono ?_
  ·rw[sz,sz];omega
  ·rintro e w' ⟨r,rfl,hr,hb⟩
   exact⟨r,rfl,⟨λk=>absurd k hr,λk=>absurd (hok.1 k).2 hL⟩,hb⟩
theorem zd1 (n k:Nat) (h:n≠k) (l:List UInt8) (hl:zD k=l):(zD n==l)=false/\¬zD n=l:=by
 have:¬zD n=l:=λe=>h (by rw[<-hl] at e;have:=congrArg val e;rwa [zb2,zb2] at this)
 exact⟨by rw[beq_eq_false_iff_ne];exact this,this⟩
theorem zf6 (q:Rat) (h:okN q) (w:zA) (hw:Wd w):
 qJ 57 #[St (numS q)] w (.int .i64 0):=by
 refine(zuj (numS q) (zuc h) w hw).mono ?_
 rintro e w' ⟨r,rfl,hr,hb⟩
 rw[hr.2 ⟨q,rfl,h⟩]
 exact⟨rfl,hb⟩
theorem zf7 (q r:Rat) (hq:okN q) (hr:okN r) (w:zA) (hw:Wd w):
 qJ 145 #[St (numS q),St (numS r)] w (.int .i64 0):=by
 have c1:=λW hW=>zf6 q hq W hW
 have c2:=λW hW=>zf6 r hr W hW
 generalize numS q=x at*
 generalize numS r=y at*
 have C1:=hid c1;have C2:=hid c2;have HW:=hid hw
 clear c1 c2 hq hr hw
 go_enter Tryz.func145,Tryz.ntmps145
 go_wp2_with fail
 refine(C1.out w HW.out).mono ?_
 rintro e w1 ⟨rfl,hb1⟩
 have HB1:=hid hb1;clear hb1
 go_wp2_with fail
 refine(C2.out w1 (HW.out.below HB1.out)).mono ?_
 rintro e w2 ⟨rfl,hb2⟩
 have HB2:=qT HB1 hb2;clear hb2
 go_wp2_with fail
 go_ret
 exact⟨rfl,HB2.out⟩
theorem zvl (q:Rat) (h:okN q) (w:zA) (hw:Wd w):
 qJ 142 #[St (numS q)] w (.tuple #[St (zE q.num),St (zD q.den),.int .i64 0]):=by
 have c1:=zf6 q h w hw
 have c2:=λW=>zee q h W
 generalize numS q=x at*
 generalize zE q.num=n at*
 generalize zD q.den=d at*
 have C1:=hid c1;have C2:=hid c2
 clear c1 c2 h hw
 go_enter Tryz.func142,Tryz.ntmps142
 go_wp2_with fail
 refine C1.out.mono ?_
 rintro e w1 ⟨rfl,hb1⟩
 have HB1:=hid hb1;clear hb1
 go_wp2_with fail
 refine(C2.out w1).mono ?_
 rintro e w2 ⟨rfl,hb2⟩
 have HB2:=qT HB1 hb2;clear hb2
 go_wp2_with fail
 go_ret3
 exact⟨rfl,HB2.out⟩
theorem zdn (z:Int) (s:ByteArray) (hs:s=⟨(zE z).toArray⟩):∃h:0<s.size,(((s[0]'h).toNat:Int)==45)=decide (z<0)/\(z<0->s.extract 1 s.size=⟨(zD z.natAbs).toArray⟩):=by
 obtain⟨b1,b2⟩:=zdd (zE z) s hs
 have hp:0<(zE z).length:=zS (zbn z) (zbr z)
 have h:0<s.size:=by omega
 refine⟨h,?_,?_⟩
 ·rw[b2 0 hp h]
  rcases zbg z with⟨k,e⟩|⟨k,e⟩
  ·rw[decide_eq_false (by omega),beq_eq_false_iff_ne]
   have hd:=zan z.natAbs ((zE z)[0]'hp) (by simp only[e];exact zY _)
   omega
  ·rw[decide_eq_true k,beq_iff_eq]
   simp only[e]
   rfl
 ·intro k
  rcases zbg z with⟨k',e⟩|⟨_,e⟩
  ·omega
  ·rw[hs,zev,e];rfl
theorem zft (n:Nat) (s:ByteArray) (hs:s=⟨(zD n).toArray⟩):∃h:0<s.size,(((s[0]'h).toNat:Int)==45)=false:=by
 obtain⟨h,e,_⟩:=zdn (n:Int) s (by rw[Str.zad];exact hs)
 exact⟨h,by rw[e];simp⟩
theorem zqb (n:Int) (D:Nat) (hD:0<D) (hm:n<0) (h1:(zE n).length<=18) (h2:(zD D).length<=18) (w:zA):
 qJ 250 #[St (zE n),St (zD D)] w (.tuple #[St (numS (Rat.divInt n (D:Int))),.int .i64 0]):=by
 have hn18:n.natAbs<1000000000000000000:=(za3 n 18 (by omega)).1 (zO (zbr n) h1)
 have hD18:D<1000000000000000000:=(zaf D 18 (by omega)).1 h2
 have hdl:(zD n.natAbs).length<=18:=(zaf _ 18 (by omega)).2 hn18
 have s1:=λW=>zdr (zD n.natAbs) (zan _) hdl W
 have s2:=λW=>zdr (zD D) (zan _) h2 W
 rw[zb2] at s1 s2
 have qk:=λW=>zhg n D (by omega) hD (by omega) W
 obtain⟨sn,hsn⟩:∃s:ByteArray,s=⟨(zE n).toArray⟩:=⟨_,rfl⟩
 obtain⟨sd,hsd⟩:∃s:ByteArray,s=⟨(zD D).toArray⟩:=⟨_,rfl⟩
 obtain⟨p1,p2,p3⟩:=zdn n sn hsn
 obtain⟨r1,r2⟩:=zft D sd hsd
 have l1:sn.size<=18:=by rw[hsn];exact h1
 have l2:sd.size<=18:=by rw[hsd];exact h2
 have l1':(sn.size:Int)<=18:=by omega
 have l2':(sd.size:Int)<=18:=by omega
 rw[decide_eq_true hm] at p2
 have hx:=p3 hm
 have hw:IntKind.i64.wrap (-(n.natAbs:Int))=n:=by rw[show-(n.natAbs:Int)=n by omega];exact zI _ (by omega)
 show zC _ _ #[.string ⟨(zE n).toArray⟩,.string ⟨(zD D).toArray⟩] _ _
 have s2':∀W:zA,zC zF 108 #[.string sd] W λe w'=>e=.returned (I D)/\w'=W:=λW=>by rw[hsd];exact s2 W
 obtain⟨su,hsu⟩:∃s:ByteArray,s=⟨(zD n.natAbs).toArray⟩:=⟨_,rfl⟩
 have s1':∀W:zA,zC zF 108 #[.string su] W λe w'=>e=.returned (I n.natAbs)/\w'=W:=λW=>by rw[hsu];exact s1 W
 rw[<-hsu] at hx
 rw[<-hsn,<-hsd]
 have S1:=hid s1';have S2:=hid s2';have QK:=hid qk
 clear s1 s2 qk s1' s2' hsn hsd h1 h2 hdl p3 hsu
 generalize numS (Rat.divInt n (D:Int))=t at*
 generalize n.natAbs=na at*
 go_enter Tryz.func250,Tryz.ntmps250
 go_wp2_with fail
 refine(S1.out w).mono ?_
 rintro e w1 ⟨rfl,hw1⟩
 have hw1':=hw1.symm;subst hw1'
 go_wp2_with fail
 refine(S2.out w).mono ?_
 rintro e w2 ⟨rfl,hw2⟩
 have hw2':=hw2.symm;subst hw2'
 go_wp2_with fail
 refine(QK.out w).mono ?_
 rintro e w3 ⟨rfl,hb3⟩
 go_wp2_with fail
 go_ret2
 exact⟨rfl,hb3⟩
theorem zqc (n:Int) (D:Nat) (hD:0<D) (hm:¬n<0) (h1:(zE n).length<=18) (h2:(zD D).length<=18) (w:zA):
 qJ 250 #[St (zE n),St (zD D)] w (.tuple #[St (numS (Rat.divInt n (D:Int))),.int .i64 0]):=by
 have hn18:n.natAbs<1000000000000000000:=(za3 n 18 (by omega)).1 (zO (zbr n) h1)
 have hD18:D<1000000000000000000:=(zaf D 18 (by omega)).1 h2
 have hdl:(zD n.natAbs).length<=18:=(zaf _ 18 (by omega)).2 hn18
 have s1:=λW=>zdr (zD n.natAbs) (zan _) hdl W
 have s2:=λW=>zdr (zD D) (zan _) h2 W
 rw[zb2] at s1 s2
 have qk:=λW=>zhg n D (by omega) hD (by omega) W
 obtain⟨sn,hsn⟩:∃s:ByteArray,s=⟨(zE n).toArray⟩:=⟨_,rfl⟩
 obtain⟨sd,hsd⟩:∃s:ByteArray,s=⟨(zD D).toArray⟩:=⟨_,rfl⟩
 obtain⟨p1,p2,p3⟩:=zdn n sn hsn
 obtain⟨r1,r2⟩:=zft D sd hsd
 have l1:sn.size<=18:=by rw[hsn];exact h1
 have l2:sd.size<=18:=by rw[hsd];exact h2
 have l1':(sn.size:Int)<=18:=by omega
 have l2':(sd.size:Int)<=18:=by omega
 rw[decide_eq_false hm] at p2
 have hx:zE n=zD n.natAbs:=by rcases zbg n with⟨_,e⟩|⟨k,_⟩;exact e;omega
 have hw:(n:Int)=(n.natAbs:Int):=by omega
 rw[<-hx] at s1
 show zC _ _ #[.string ⟨(zE n).toArray⟩,.string ⟨(zD D).toArray⟩] _ _
 have s2':∀W:zA,zC zF 108 #[.string sd] W λe w'=>e=.returned (I D)/\w'=W:=λW=>by rw[hsd];exact s2 W
 have s1':∀W:zA,zC zF 108 #[.string sn] W λe w'=>e=.returned (I n.natAbs)/\w'=W:=λW=>by rw[hsn];exact s1 W
 have qk':∀W:zA,qJ 189 #[I n.natAbs,I D] W (St (numS (Rat.divInt n (D:Int)))):=λW=>by have:=qk W;rw[hw] at this;rw[hw];exact this
 rw[<-hsn,<-hsd]
 have S1:=hid s1';have S2:=hid s2';have QK:=hid qk'
 clear s1 s2 qk s1' s2' hsn hsd h1 h2 hdl p3 hx qk' hw
 generalize numS (Rat.divInt n (D:Int))=t at*
 generalize n.natAbs=na at*
 go_enter Tryz.func250,Tryz.ntmps250
 go_wp2_with fail
 refine(S1.out w).mono ?_
 rintro e w1 ⟨rfl,hw1⟩
 have hw1':=hw1.symm;subst hw1'
 go_wp2_with fail
 refine(S2.out w).mono ?_
 rintro e w2 ⟨rfl,hw2⟩
 have hw2':=hw2.symm;subst hw2'
 go_wp2_with fail
 refine(QK.out w).mono ?_
 rintro e w3 ⟨rfl,hb3⟩
 go_wp2_with fail
 go_ret2
 exact⟨rfl,hb3⟩
theorem zqd (n:Int) (D g d1:Nat) (q1:Int) (hD:0<D) (hg:g=Int.gcd n (D:Int)) (hq:n=q1*g) (hd:D=d1*g) (hm:n<0) (h1:d1=1) (hn3:digs n<=300) (hd3:(zD D).length<=300) (hor:18<(zE n).length\/((zE n).length<=18/\18<(zD D).length)) (w:zA) (hw:Wd w):
 qJ 250 #[St (zE n),St (zD D)] w (.tuple #[St (zE q1++[]),.int .i64 0]):=by
 have hg0:0<g:=by rw[hg];exact Int.gcd_pos_of_ne_zero_right _ (by omega)
 have hd10:0<d1:=yS (λe=>by rw[e,Nat.zero_mul] at hd;omega)
 have hgd:(zD g).length<=300:=by
  rw[zaf _ _ (by omega)] at hd3⊢
  have:g<=D:=by rw[hd];exact Nat.le_mul_of_pos_left _ hd10
  exact Nat.lt_of_le_of_lt this hd3
 have hq3:digs q1<=300:=by
  rw[za3 _ _ (by omega)] at hn3⊢
  have:q1.natAbs<=n.natAbs:=by rw[hq,yK];exact Nat.le_mul_of_pos_right _ (by omega)
  exact Nat.lt_of_le_of_lt this hn3
 have hd13:(zD d1).length<=300:=by
  rw[zaf _ _ (by omega)] at hd3⊢
  have:d1<=D:=by rw[hd];exact Nat.le_mul_of_pos_right _ hg0
  exact Nat.lt_of_le_of_lt this hd3
 have dg:∀k:Nat,digs (k:Int)=(zD k).length:=λk=>by unfold digs;rw[Int.natAbs_natCast]
 have yg:=λW hW=>zgm n (D:Int) hn3 (by rw[dg];exact hd3) W hW
 have y1:=λW hW=>zcq n (g:Int) q1 hq (by omega) hn3 (by rw[dg];exact hgd) W hW
 have y2:=λW hW=>zcq (D:Int) (g:Int) (d1:Int) (by rw[hd,Int.natCast_mul]) (by omega) (by rw[dg];exact hd3) (by rw[dg];exact hgd) W hW
 rw[<-hg] at yg
 rw[Str.zad,Str.zad] at yg y2
 rw[Str.zad] at y1 y2
 have hqm:q1<0:=by
  have hgi:(0:Int)<g:=by omega
  rcases Int.lt_or_le q1 0 with k|k
  ·exact k
  ·have:=Int.mul_nonneg k (Int.le_of_lt hgi);omega
 obtain⟨sn,hsn⟩:∃s:ByteArray,s=⟨(zE n).toArray⟩:=⟨_,rfl⟩
 obtain⟨sd,hsd⟩:∃s:ByteArray,s=⟨(zD D).toArray⟩:=⟨_,rfl⟩
 obtain⟨sq,hsq⟩:∃s:ByteArray,s=⟨(zE q1).toArray⟩:=⟨_,rfl⟩
 obtain⟨r1,r2⟩:=zft D sd hsd
 obtain⟨p1,p2,p3⟩:=zdn q1 sq hsq
 rw[decide_eq_true hqm] at p2
 have hsz:sn.size=(zE n).length:=by rw[hsn];rfl
 have hszd:sd.size=(zD D).length:=by rw[hsd];rfl
 have hszq:sq.size<=301:=by
  have:sq.size=(zE q1).length:=by rw[hsq];rfl
  have:=za7 q1;omega
 have hx:=p3 hqm
 obtain⟨su,hsu⟩:∃s:ByteArray,s=⟨(zD q1.natAbs).toArray⟩:=⟨_,rfl⟩
 rw[<-hsu] at hx
 have hsu3:su.size<=300:=by rw[hsu];exact hq3
 have j1:¬(300:Int)<su.size:=by omega
 have yg':qK 109 #[.string sn,.string sd] (.tuple #[St (zD g),.int .i64 0]):=λW hW=>by rw[hsn,hsd];exact yg W hW
 have y1':qK 287 #[.string sn,St (zD g)] (.tuple #[.string sq,St [48],.int .i64 0]):=λW hW=>by rw[hsn,hsq];exact y1 W hW
 have y2':qK 287 #[.string sd,St (zD g)] (.tuple #[St (zD d1),St [48],.int .i64 0]):=λW hW=>by rw[hsd];exact y2 W hW
 rw[h1,show zD 1=[49] by decide+kernel] at y2'
 show zC _ _ #[.string ⟨(zE n).toArray⟩,.string ⟨(zD D).toArray⟩] _ _
 rw[<-hsn,<-hsd]
 rw[<-hsz,<-hszd] at hor
 have YG:=hid yg';have Y1:=hid y1';have Y2:=hid y2';have HW:=hid hw;have HSQ:=hid hsq
 clear yg y1 y2 yg' y1' y2' hw hsn hsd hsz hszd hg hq hd hm hn3 hd3 hg0 hgd hd10 hq3 dg hqm p3 hsq hsu hsu3 h1
 generalize zD g=gl at*
 generalize zD d1=dl at*
 go_enter Tryz.func250,Tryz.ntmps250
 rcases hor with k1|⟨k1,k2⟩
 ·have k1':¬(sn.size:Int)<=18:=by omega
  go_wp2_with fail
  refine(YG.out w HW.out).mono ?_
  rintro e w1 ⟨rfl,hb1⟩
  have HB1:=hid hb1;clear hb1
  go_wp2_with fail
  refine(Y1.out w1 (HW.out.below HB1.out)).mono ?_
  rintro e w2 ⟨rfl,hb2⟩
  have HB2:=qT HB1 hb2;clear hb2
  go_wp2_with fail
  refine(Y2.out w2 (HW.out.below HB2.out)).mono ?_
  rintro e w3 ⟨rfl,hb3⟩
  have HB3:=qT HB2 hb3;clear hb3
  go_wp2_with fail
  go_ret2
  refine⟨?_,HB3.out⟩
  show Ending.returned (.tuple #[.string sq,.int .i64 0])=_
  rw[HSQ.out,yH]
 ·have k1':(sn.size:Int)<=18:=by omega
  have k2':¬(sd.size:Int)<=18:=by omega
  go_wp2_with fail
  refine(YG.out w HW.out).mono ?_
  rintro e w1 ⟨rfl,hb1⟩
  have HB1:=hid hb1;clear hb1
  go_wp2_with fail
  refine(Y1.out w1 (HW.out.below HB1.out)).mono ?_
  rintro e w2 ⟨rfl,hb2⟩
  have HB2:=qT HB1 hb2;clear hb2
  go_wp2_with fail
  refine(Y2.out w2 (HW.out.below HB2.out)).mono ?_
  rintro e w3 ⟨rfl,hb3⟩
  have HB3:=qT HB2 hb3;clear hb3
  go_wp2_with fail
  go_ret2
  refine⟨?_,HB3.out⟩
  show Ending.returned (.tuple #[.string sq,.int .i64 0])=_
  rw[HSQ.out,yH]
theorem zqe (n:Int) (D g d1:Nat) (q1:Int) (hD:0<D) (hg:g=Int.gcd n (D:Int)) (hq:n=q1*g) (hd:D=d1*g) (hm:n<0) (h1:d1≠1) (hn3:digs n<=300) (hd3:(zD D).length<=300) (hor:18<(zE n).length\/((zE n).length<=18/\18<(zD D).length)) (w:zA) (hw:Wd w):
 qJ 250 #[St (zE n),St (zD D)] w (.tuple #[St (zE q1++47::zD d1),.int .i64 0]):=by
 have hg0:0<g:=by rw[hg];exact Int.gcd_pos_of_ne_zero_right _ (by omega)
 have hd10:0<d1:=yS (λe=>by rw[e,Nat.zero_mul] at hd;omega)
 have hgd:(zD g).length<=300:=by
  rw[zaf _ _ (by omega)] at hd3⊢
  have:g<=D:=by rw[hd];exact Nat.le_mul_of_pos_left _ hd10
  exact Nat.lt_of_le_of_lt this hd3
 have hq3:digs q1<=300:=by
  rw[za3 _ _ (by omega)] at hn3⊢
  have:q1.natAbs<=n.natAbs:=by rw[hq,yK];exact Nat.le_mul_of_pos_right _ (by omega)
  exact Nat.lt_of_le_of_lt this hn3
 have hd13:(zD d1).length<=300:=by
  rw[zaf _ _ (by omega)] at hd3⊢
  have:d1<=D:=by rw[hd];exact Nat.le_mul_of_pos_right _ hg0
  exact Nat.lt_of_le_of_lt this hd3
 have dg:∀k:Nat,digs (k:Int)=(zD k).length:=λk=>by unfold digs;rw[Int.natAbs_natCast]
 have yg:=λW hW=>zgm n (D:Int) hn3 (by rw[dg];exact hd3) W hW
 have y1:=λW hW=>zcq n (g:Int) q1 hq (by omega) hn3 (by rw[dg];exact hgd) W hW
 have y2:=λW hW=>zcq (D:Int) (g:Int) (d1:Int) (by rw[hd,Int.natCast_mul]) (by omega) (by rw[dg];exact hd3) (by rw[dg];exact hgd) W hW
 rw[<-hg] at yg
 rw[Str.zad,Str.zad] at yg y2
 rw[Str.zad] at y1 y2
 have hqm:q1<0:=by
  have hgi:(0:Int)<g:=by omega
  rcases Int.lt_or_le q1 0 with k|k
  ·exact k
  ·have:=Int.mul_nonneg k (Int.le_of_lt hgi);omega
 obtain⟨sn,hsn⟩:∃s:ByteArray,s=⟨(zE n).toArray⟩:=⟨_,rfl⟩
 obtain⟨sd,hsd⟩:∃s:ByteArray,s=⟨(zD D).toArray⟩:=⟨_,rfl⟩
 obtain⟨sq,hsq⟩:∃s:ByteArray,s=⟨(zE q1).toArray⟩:=⟨_,rfl⟩
 obtain⟨r1,r2⟩:=zft D sd hsd
 obtain⟨p1,p2,p3⟩:=zdn q1 sq hsq
 rw[decide_eq_true hqm] at p2
 have hsz:sn.size=(zE n).length:=by rw[hsn];rfl
 have hszd:sd.size=(zD D).length:=by rw[hsd];rfl
 have hszq:sq.size<=301:=by
  have:sq.size=(zE q1).length:=by rw[hsq];rfl
  have:=za7 q1;omega
 have hx:=p3 hqm
 obtain⟨su,hsu⟩:∃s:ByteArray,s=⟨(zD q1.natAbs).toArray⟩:=⟨_,rfl⟩
 rw[<-hsu] at hx
 have hsu3:su.size<=300:=by rw[hsu];exact hq3
 have j1:¬(300:Int)<su.size:=by omega
 have yg':qK 109 #[.string sn,.string sd] (.tuple #[St (zD g),.int .i64 0]):=λW hW=>by rw[hsn,hsd];exact yg W hW
 have y1':qK 287 #[.string sn,St (zD g)] (.tuple #[.string sq,St [48],.int .i64 0]):=λW hW=>by rw[hsn,hsq];exact y1 W hW
 have y2':qK 287 #[.string sd,St (zD g)] (.tuple #[St (zD d1),St [48],.int .i64 0]):=λW hW=>by rw[hsd];exact y2 W hW
 obtain⟨z5,z6⟩:=zd1 d1 1 h1 [49] (by decide+kernel)
 have j2:¬(300:Int)<(zD d1).length:=by omega
 have f1:¬(9223372036854775807<sq.size+1):=by omega
 have f2:¬(9223372036854775807<sq.size+1+(zD d1).length):=by omega
 show zC _ _ #[.string ⟨(zE n).toArray⟩,.string ⟨(zD D).toArray⟩] _ _
 rw[<-hsn,<-hsd]
 rw[<-hsz,<-hszd] at hor
 have YG:=hid yg';have Y1:=hid y1';have Y2:=hid y2';have HW:=hid hw;have HSQ:=hid hsq
 clear yg y1 y2 yg' y1' y2' hw hsn hsd hsz hszd hg hq hd hm hn3 hd3 hg0 hgd hd10 hq3 dg hqm p3 hsq hsu hsu3 h1
 generalize zD g=gl at*
 generalize zD d1=dl at*
 go_enter Tryz.func250,Tryz.ntmps250
 rcases hor with k1|⟨k1,k2⟩
 ·have k1':¬(sn.size:Int)<=18:=by omega
  go_wp2_with fail
  refine(YG.out w HW.out).mono ?_
  rintro e w1 ⟨rfl,hb1⟩
  have HB1:=hid hb1;clear hb1
  go_wp2_with fail
  refine(Y1.out w1 (HW.out.below HB1.out)).mono ?_
  rintro e w2 ⟨rfl,hb2⟩
  have HB2:=qT HB1 hb2;clear hb2
  go_wp2_with fail
  refine(Y2.out w2 (HW.out.below HB2.out)).mono ?_
  rintro e w3 ⟨rfl,hb3⟩
  have HB3:=qT HB2 hb3;clear hb3
  go_wp2_with fail
  go_ret2
  refine⟨?_,HB3.out⟩
  show Ending.returned (.tuple #[.string ((sq++⟨#[47]⟩)++⟨dl.toArray⟩),.int .i64 0])=_
  rw[HSQ.out,show(⟨#[47]⟩:ByteArray)=⟨([47]:List UInt8).toArray⟩ from rfl,zd3,zd3,yL]
  rfl
 ·have k1':(sn.size:Int)<=18:=by omega
  have k2':¬(sd.size:Int)<=18:=by omega
  go_wp2_with fail
  refine(YG.out w HW.out).mono ?_
  rintro e w1 ⟨rfl,hb1⟩
  have HB1:=hid hb1;clear hb1
  go_wp2_with fail
  refine(Y1.out w1 (HW.out.below HB1.out)).mono ?_
  rintro e w2 ⟨rfl,hb2⟩
  have HB2:=qT HB1 hb2;clear hb2
  go_wp2_with fail
  refine(Y2.out w2 (HW.out.below HB2.out)).mono ?_
  rintro e w3 ⟨rfl,hb3⟩
  have HB3:=qT HB2 hb3;clear hb3
  go_wp2_with fail
  go_ret2
  refine⟨?_,HB3.out⟩
  show Ending.returned (.tuple #[.string ((sq++⟨#[47]⟩)++⟨dl.toArray⟩),.int .i64 0])=_
  rw[HSQ.out,show(⟨#[47]⟩:ByteArray)=⟨([47]:List UInt8).toArray⟩ from rfl,zd3,zd3,yL]
  rfl
theorem zqf (n:Int) (D g d1:Nat) (q1:Int) (hD:0<D) (hg:g=Int.gcd n (D:Int)) (hq:n=q1*g) (hd:D=d1*g) (hm:¬n<0) (h1:d1=1) (hn3:digs n<=300) (hd3:(zD D).length<=300) (hor:18<(zE n).length\/((zE n).length<=18/\18<(zD D).length)) (w:zA) (hw:Wd w):
 qJ 250 #[St (zE n),St (zD D)] w (.tuple #[St (zE q1++[]),.int .i64 0]):=by
 have hg0:0<g:=by rw[hg];exact Int.gcd_pos_of_ne_zero_right _ (by omega)
 have hd10:0<d1:=yS (λe=>by rw[e,Nat.zero_mul] at hd;omega)
 have hgd:(zD g).length<=300:=by
  rw[zaf _ _ (by omega)] at hd3⊢
  have:g<=D:=by rw[hd];exact Nat.le_mul_of_pos_left _ hd10
  exact Nat.lt_of_le_of_lt this hd3
 have hq3:digs q1<=300:=by
  rw[za3 _ _ (by omega)] at hn3⊢
  have:q1.natAbs<=n.natAbs:=by rw[hq,yK];exact Nat.le_mul_of_pos_right _ (by omega)
  exact Nat.lt_of_le_of_lt this hn3
 have hd13:(zD d1).length<=300:=by
  rw[zaf _ _ (by omega)] at hd3⊢
  have:d1<=D:=by rw[hd];exact Nat.le_mul_of_pos_right _ hg0
  exact Nat.lt_of_le_of_lt this hd3
 have dg:∀k:Nat,digs (k:Int)=(zD k).length:=λk=>by unfold digs;rw[Int.natAbs_natCast]
 have yg:=λW hW=>zgm n (D:Int) hn3 (by rw[dg];exact hd3) W hW
 have y1:=λW hW=>zcq n (g:Int) q1 hq (by omega) hn3 (by rw[dg];exact hgd) W hW
 have y2:=λW hW=>zcq (D:Int) (g:Int) (d1:Int) (by rw[hd,Int.natCast_mul]) (by omega) (by rw[dg];exact hd3) (by rw[dg];exact hgd) W hW
 rw[<-hg] at yg
 rw[Str.zad,Str.zad] at yg y2
 rw[Str.zad] at y1 y2
 have hqm:¬q1<0:=by
  have hgi:(0:Int)<g:=by omega
  intro k
  have:=Int.mul_neg_of_neg_of_pos k hgi;omega
 obtain⟨sn,hsn⟩:∃s:ByteArray,s=⟨(zE n).toArray⟩:=⟨_,rfl⟩
 obtain⟨sd,hsd⟩:∃s:ByteArray,s=⟨(zD D).toArray⟩:=⟨_,rfl⟩
 obtain⟨sq,hsq⟩:∃s:ByteArray,s=⟨(zE q1).toArray⟩:=⟨_,rfl⟩
 obtain⟨r1,r2⟩:=zft D sd hsd
 obtain⟨p1,p2,p3⟩:=zdn q1 sq hsq
 rw[decide_eq_false hqm] at p2
 have hsz:sn.size=(zE n).length:=by rw[hsn];rfl
 have hszd:sd.size=(zD D).length:=by rw[hsd];rfl
 have hszq:sq.size<=301:=by
  have:sq.size=(zE q1).length:=by rw[hsq];rfl
  have:=za7 q1;omega
 have hsq3:sq.size<=300:=by
  have e:zE q1=zD q1.natAbs:=by rcases zbg q1 with⟨_,e⟩|⟨k,_⟩;exact e;exact absurd k hqm
  rw[hsq,e];exact hq3
 have j1:¬(300:Int)<sq.size:=by omega
 have yg':qK 109 #[.string sn,.string sd] (.tuple #[St (zD g),.int .i64 0]):=λW hW=>by rw[hsn,hsd];exact yg W hW
 have y1':qK 287 #[.string sn,St (zD g)] (.tuple #[.string sq,St [48],.int .i64 0]):=λW hW=>by rw[hsn,hsq];exact y1 W hW
 have y2':qK 287 #[.string sd,St (zD g)] (.tuple #[St (zD d1),St [48],.int .i64 0]):=λW hW=>by rw[hsd];exact y2 W hW
 rw[h1,show zD 1=[49] by decide+kernel] at y2'
 show zC _ _ #[.string ⟨(zE n).toArray⟩,.string ⟨(zD D).toArray⟩] _ _
 rw[<-hsn,<-hsd]
 rw[<-hsz,<-hszd] at hor
 have YG:=hid yg';have Y1:=hid y1';have Y2:=hid y2';have HW:=hid hw;have HSQ:=hid hsq
 clear yg y1 y2 yg' y1' y2' hw hsn hsd hsz hszd hg hq hd hm hn3 hd3 hg0 hgd hd10 hq3 dg hqm p3 hsq hsq3 h1
 generalize zD g=gl at*
 generalize zD d1=dl at*
 go_enter Tryz.func250,Tryz.ntmps250
 rcases hor with k1|⟨k1,k2⟩
 ·have k1':¬(sn.size:Int)<=18:=by omega
  go_wp2_with fail
  refine(YG.out w HW.out).mono ?_
  rintro e w1 ⟨rfl,hb1⟩
  have HB1:=hid hb1;clear hb1
  go_wp2_with fail
  refine(Y1.out w1 (HW.out.below HB1.out)).mono ?_
  rintro e w2 ⟨rfl,hb2⟩
  have HB2:=qT HB1 hb2;clear hb2
  go_wp2_with fail
  refine(Y2.out w2 (HW.out.below HB2.out)).mono ?_
  rintro e w3 ⟨rfl,hb3⟩
  have HB3:=qT HB2 hb3;clear hb3
  go_wp2_with fail
  go_ret2
  refine⟨?_,HB3.out⟩
  show Ending.returned (.tuple #[.string sq,.int .i64 0])=_
  rw[HSQ.out,yH]
 ·have k1':(sn.size:Int)<=18:=by omega
  have k2':¬(sd.size:Int)<=18:=by omega
  go_wp2_with fail
  refine(YG.out w HW.out).mono ?_
  rintro e w1 ⟨rfl,hb1⟩
  have HB1:=hid hb1;clear hb1
  go_wp2_with fail
  refine(Y1.out w1 (HW.out.below HB1.out)).mono ?_
  rintro e w2 ⟨rfl,hb2⟩
  have HB2:=qT HB1 hb2;clear hb2
  go_wp2_with fail
  refine(Y2.out w2 (HW.out.below HB2.out)).mono ?_
  rintro e w3 ⟨rfl,hb3⟩
  have HB3:=qT HB2 hb3;clear hb3
  go_wp2_with fail
  go_ret2
  refine⟨?_,HB3.out⟩
  show Ending.returned (.tuple #[.string sq,.int .i64 0])=_
  rw[HSQ.out,yH]
theorem zqg (n:Int) (D g d1:Nat) (q1:Int) (hD:0<D) (hg:g=Int.gcd n (D:Int)) (hq:n=q1*g) (hd:D=d1*g) (hm:¬n<0) (h1:d1≠1) (hn3:digs n<=300) (hd3:(zD D).length<=300) (hor:18<(zE n).length\/((zE n).length<=18/\18<(zD D).length)) (w:zA) (hw:Wd w):
 qJ 250 #[St (zE n),St (zD D)] w (.tuple #[St (zE q1++47::zD d1),.int .i64 0]):=by
 have hg0:0<g:=by rw[hg];exact Int.gcd_pos_of_ne_zero_right _ (by omega)
 have hd10:0<d1:=yS (λe=>by rw[e,Nat.zero_mul] at hd;omega)
 have hgd:(zD g).length<=300:=by
  rw[zaf _ _ (by omega)] at hd3⊢
  have:g<=D:=by rw[hd];exact Nat.le_mul_of_pos_left _ hd10
  exact Nat.lt_of_le_of_lt this hd3
 have hq3:digs q1<=300:=by
  rw[za3 _ _ (by omega)] at hn3⊢
  have:q1.natAbs<=n.natAbs:=by rw[hq,yK];exact Nat.le_mul_of_pos_right _ (by omega)
  exact Nat.lt_of_le_of_lt this hn3
 have hd13:(zD d1).length<=300:=by
  rw[zaf _ _ (by omega)] at hd3⊢
  have:d1<=D:=by rw[hd];exact Nat.le_mul_of_pos_right _ hg0
  exact Nat.lt_of_le_of_lt this hd3
 have dg:∀k:Nat,digs (k:Int)=(zD k).length:=λk=>by unfold digs;rw[Int.natAbs_natCast]
 have yg:=λW hW=>zgm n (D:Int) hn3 (by rw[dg];exact hd3) W hW
 have y1:=λW hW=>zcq n (g:Int) q1 hq (by omega) hn3 (by rw[dg];exact hgd) W hW
 have y2:=λW hW=>zcq (D:Int) (g:Int) (d1:Int) (by rw[hd,Int.natCast_mul]) (by omega) (by rw[dg];exact hd3) (by rw[dg];exact hgd) W hW
 rw[<-hg] at yg
 rw[Str.zad,Str.zad] at yg y2
 rw[Str.zad] at y1 y2
 have hqm:¬q1<0:=by
  have hgi:(0:Int)<g:=by omega
  intro k
  have:=Int.mul_neg_of_neg_of_pos k hgi;omega
 obtain⟨sn,hsn⟩:∃s:ByteArray,s=⟨(zE n).toArray⟩:=⟨_,rfl⟩
 obtain⟨sd,hsd⟩:∃s:ByteArray,s=⟨(zD D).toArray⟩:=⟨_,rfl⟩
 obtain⟨sq,hsq⟩:∃s:ByteArray,s=⟨(zE q1).toArray⟩:=⟨_,rfl⟩
 obtain⟨r1,r2⟩:=zft D sd hsd
 obtain⟨p1,p2,p3⟩:=zdn q1 sq hsq
 rw[decide_eq_false hqm] at p2
 have hsz:sn.size=(zE n).length:=by rw[hsn];rfl
 have hszd:sd.size=(zD D).length:=by rw[hsd];rfl
 have hszq:sq.size<=301:=by
  have:sq.size=(zE q1).length:=by rw[hsq];rfl
  have:=za7 q1;omega
 have hsq3:sq.size<=300:=by
  have e:zE q1=zD q1.natAbs:=by rcases zbg q1 with⟨_,e⟩|⟨k,_⟩;exact e;exact absurd k hqm
  rw[hsq,e];exact hq3
 have j1:¬(300:Int)<sq.size:=by omega
 have yg':qK 109 #[.string sn,.string sd] (.tuple #[St (zD g),.int .i64 0]):=λW hW=>by rw[hsn,hsd];exact yg W hW
 have y1':qK 287 #[.string sn,St (zD g)] (.tuple #[.string sq,St [48],.int .i64 0]):=λW hW=>by rw[hsn,hsq];exact y1 W hW
 have y2':qK 287 #[.string sd,St (zD g)] (.tuple #[St (zD d1),St [48],.int .i64 0]):=λW hW=>by rw[hsd];exact y2 W hW
 obtain⟨z5,z6⟩:=zd1 d1 1 h1 [49] (by decide+kernel)
 have j2:¬(300:Int)<(zD d1).length:=by omega
 have f1:¬(9223372036854775807<sq.size+1):=by omega
 have f2:¬(9223372036854775807<sq.size+1+(zD d1).length):=by omega
 show zC _ _ #[.string ⟨(zE n).toArray⟩,.string ⟨(zD D).toArray⟩] _ _
 rw[<-hsn,<-hsd]
 rw[<-hsz,<-hszd] at hor
 have YG:=hid yg';have Y1:=hid y1';have Y2:=hid y2';have HW:=hid hw;have HSQ:=hid hsq
 clear yg y1 y2 yg' y1' y2' hw hsn hsd hsz hszd hg hq hd hm hn3 hd3 hg0 hgd hd10 hq3 dg hqm p3 hsq hsq3 h1
 generalize zD g=gl at*
 generalize zD d1=dl at*
 go_enter Tryz.func250,Tryz.ntmps250
 rcases hor with k1|⟨k1,k2⟩
 ·have k1':¬(sn.size:Int)<=18:=by omega
  go_wp2_with fail
  refine(YG.out w HW.out).mono ?_
  rintro e w1 ⟨rfl,hb1⟩
  have HB1:=hid hb1;clear hb1
  go_wp2_with fail
  refine(Y1.out w1 (HW.out.below HB1.out)).mono ?_
  rintro e w2 ⟨rfl,hb2⟩
  have HB2:=qT HB1 hb2;clear hb2
  go_wp2_with fail
  refine(Y2.out w2 (HW.out.below HB2.out)).mono ?_
  rintro e w3 ⟨rfl,hb3⟩
  have HB3:=qT HB2 hb3;clear hb3
  go_wp2_with fail
  go_ret2
  refine⟨?_,HB3.out⟩
  show Ending.returned (.tuple #[.string ((sq++⟨#[47]⟩)++⟨dl.toArray⟩),.int .i64 0])=_
  rw[HSQ.out,show(⟨#[47]⟩:ByteArray)=⟨([47]:List UInt8).toArray⟩ from rfl,zd3,zd3,yL]
  rfl
 ·have k1':(sn.size:Int)<=18:=by omega
  have k2':¬(sd.size:Int)<=18:=by omega
  go_wp2_with fail
  refine(YG.out w HW.out).mono ?_
  rintro e w1 ⟨rfl,hb1⟩
  have HB1:=hid hb1;clear hb1
  go_wp2_with fail
  refine(Y1.out w1 (HW.out.below HB1.out)).mono ?_
  rintro e w2 ⟨rfl,hb2⟩
  have HB2:=qT HB1 hb2;clear hb2
  go_wp2_with fail
  refine(Y2.out w2 (HW.out.below HB2.out)).mono ?_
  rintro e w3 ⟨rfl,hb3⟩
  have HB3:=qT HB2 hb3;clear hb3
  go_wp2_with fail
  go_ret2
  refine⟨?_,HB3.out⟩
  show Ending.returned (.tuple #[.string ((sq++⟨#[47]⟩)++⟨dl.toArray⟩),.int .i64 0])=_
  rw[HSQ.out,show(⟨#[47]⟩:ByteArray)=⟨([47]:List UInt8).toArray⟩ from rfl,zd3,zd3,yL]
  rfl
theorem zn3 (n:Int) (D:Nat) (hD:0<D) (hn3:digs n<=300) (hd3:(zD D).length<=300) (w:zA) (hw:Wd w):
 qJ 250 #[St (zE n),St (zD D)] w (.tuple #[St (numS (Rat.divInt n (D:Int))),.int .i64 0]):=by
 by_cases hs:(zE n).length<=18/\(zD D).length<=18
 ·by_cases hm:n<0
  ·exact zqb n D hD hm hs.1 hs.2 w
  ·exact zqc n D hD hm hs.1 hs.2 w
 ·have hor:18<(zE n).length\/((zE n).length<=18/\18<(zD D).length):=by omega
  obtain⟨g,hg⟩:∃g,g=Int.gcd n (D:Int):=⟨_,rfl⟩
  have hg0:0<g:=by rw[hg];exact Int.gcd_pos_of_ne_zero_right _ (by omega)
  have hgn:((g:Int))∣n:=by rw[hg];exact Int.gcd_dvd_left ..
  have hgD:g∣D:=by
   have h:((Int.gcd n (D:Int):Nat):Int)∣(D:Int):=Int.gcd_dvd_right ..
   rw[<-hg] at h;exact Int.natCast_dvd_natCast.1 h
  have hq:n=(n/(g:Int))*(g:Int):=(Int.ediv_mul_cancel hgn).symm
  have hd:D=(D/g)*g:=(Nat.div_mul_cancel hgD).symm
  have e:=zif n (D:Int) (by omega)
  rw[<-hg,<-Int.natCast_ediv,Str.zad] at e
  rw[e]
  by_cases h1:D/g=1
  ·rw[if_pos (by omega)]
   by_cases hm:n<0
   ·exact zqd n D g (D/g) (n/g) hD hg hq hd hm h1 hn3 hd3 hor w hw
   ·exact zqf n D g (D/g) (n/g) hD hg hq hd hm h1 hn3 hd3 hor w hw
  ·rw[if_neg (by omega)]
   by_cases hm:n<0
   ·exact zqe n D g (D/g) (n/g) hD hg hq hd hm h1 hn3 hd3 hor w hw
   ·exact zqg n D g (D/g) (n/g) hD hg hq hd hm h1 hn3 hd3 hor w hw
theorem zon (q:Rat):numS q=[48]↔q.num=0:=by
 constructor
 ·intro h
  have h1:=(zph q).1
  rw[h] at h1
  have h2:upS [48]=[48]:=by decide
  rw[h2] at h1
  have:=congrArg val h1
  rw[zb2] at this
  simp[val] at this
  omega
 ·intro h
  have:q=0:=Rat.num_eq_zero.1 h
  rw[this];decide+kernel
theorem zz1 (q:Rat) (h:okN q) (w:zA):
 zC zF 192 #[St (numS q)] w λe w'=>e=.returned (St (numS (-q)))/\w'=w:=by
 have hn:(-q).num= -q.num:=rfl
 have hd:(-q).den=q.den:=rfl
 have hlen:=zuc h
 have htail:∃t:List UInt8,numS q=zE q.num++t/\numS (-q)=zE (-q.num)++t:=⟨if q.den=1 then[] else 47::zD q.den,rfl,by unfold numS;rw[hn,hd]⟩
 obtain⟨t,e1,e2⟩:=htail
 rcases Int.lt_trichotomy q.num 0 with hm|hm|hm
 ·have i1:zE q.num=45::zD q.num.natAbs:=by rcases zbg q.num with⟨k,_⟩|⟨_,e⟩;omega;exact e
  have i2:zE (-q.num)=zD q.num.natAbs:=by
   rcases zbg (-q.num) with⟨_,e⟩|⟨k,_⟩
   ·rw[e,Int.natAbs_neg]
   ·omega
  rw[e1,e2,i1,i2]
  rw[e1,i1] at hlen
  have hz:¬((45::zD q.num.natAbs)++t=[48]):=by simp
  have hz2:(((45::zD q.num.natAbs)++t)==[48])=false:=by rw[beq_eq_false_iff_ne];exact hz
  generalize zD q.num.natAbs=a at*
  obtain⟨s,hs⟩:∃s:ByteArray,s=⟨((45::a)++t).toArray⟩:=⟨_,rfl⟩
  obtain⟨b1,b2⟩:=zdd ((45::a)++t) s hs
  have h0:0<s.size:=by rw[b1];simp
  have h45:(((s[0]'h0).toNat:Int)==45)=true:=by rw[b2 0 (by simp) h0];rfl
  have hx:s.extract 1 s.size=⟨(a++t).toArray⟩:=by rw[hs,zev];rfl
  have hsz:s.size<=1000:=by rw[b1];exact hlen
  have hz3:(s.toList==[48])=false:=by rw[zgl _ s hs];simp
  obtain⟨r,hr⟩:∃r:ByteArray,r=⟨(a++t).toArray⟩:=⟨_,rfl⟩
  show zC _ _ #[.string ⟨((45::a)++t).toArray⟩] _ (λe w'=>e=.returned (.string ⟨(a++t).toArray⟩)/\w'=w)
  rw[<-hs,<-hr]
  rw[<-hr] at hx
  clear hs hr b1 b2 hz hz2 e1 e2 i1 i2 hlen hm hn hd h
  go_enter Tryz.func192,Tryz.ntmps192
  go_wp2
  go_ret
  exact⟨rfl,rfl⟩
 ·have hq0:q=0:=Rat.num_eq_zero.1 hm
  rw[hq0,show numS (0:Rat)=[48] by decide+kernel,show numS (-(0:Rat))=[48] by decide+kernel]
  go_enter Tryz.func192,Tryz.ntmps192
  go_wp2
  go_ret
  exact⟨rfl,rfl⟩
 ·have i1:zE q.num=zD q.num.natAbs:=by rcases zbg q.num with⟨_,e⟩|⟨k,_⟩;exact e;omega
  have i2:zE (-q.num)=45::zD q.num.natAbs:=by
   rcases zbg (-q.num) with⟨k,_⟩|⟨_,e⟩
   ·omega
   ·rw[e,Int.natAbs_neg]
  have hz:¬(numS q=[48]):=λk=>by have:=(zon q).1 k;omega
  rw[e1,i1] at hz hlen⊢
  rw[e2,i2]
  have hd0:=zan q.num.natAbs
  have hp0:0<(zD q.num.natAbs).length:=by have:=zbn (q.num.natAbs:Int);unfold digs at this;rw[Int.natAbs_natCast] at this;omega
  generalize zD q.num.natAbs=a at*
  obtain⟨s,hs⟩:∃s:ByteArray,s=⟨(a++t).toArray⟩:=⟨_,rfl⟩
  obtain⟨b1,b2⟩:=zdd (a++t) s hs
  have h0:0<s.size:=by rw[b1];simp;omega
  have h45:(((s[0]'h0).toNat:Int)==45)=false:=by
   rw[beq_eq_false_iff_ne,b2 0 (by simp;omega) h0,List.getElem_append_left hp0]
   have:=hd0 _ (zY hp0);omega
  have hsz:s.size<=1000:=by rw[b1];exact hlen
  have f1:¬(9223372036854775807<1+s.size):=by omega
  have hz3:(s.toList==[48])=false:=by rw[zgl _ s hs];simpa using hz
  show zC _ _ #[.string ⟨(a++t).toArray⟩] _ _
  rw[<-hs]
  have HS:=hid hs
  clear hs b1 b2 hz e1 e2 i1 i2 hlen hm hn hd h hd0 hp0
  go_enter Tryz.func192,Tryz.ntmps192
  go_wp2
  go_ret
  refine⟨?_,rfl⟩
  show Ending.returned (.string ((⟨#[45]⟩:ByteArray)++s))=_
  rw[HS.out,zhf]
  try rfl
theorem zc1 {q:Rat} {k:Nat} (hk:0<k) (hk3:k<=300) (h:sz q k):okN q:=
 ⟨zO ((za3 _ k hk).2 h.1) hk3,zO ((zaf _ k hk).2 h.2) hk3⟩
theorem zjk {q:Rat} (h:zbc q):q.num.natAbs<1000000000/\q.den<1000000000:=⟨(za3 _ 9 (by omega)).1 h.1,(zaf _ 9 (by omega)).1 h.2⟩
theorem zfb {x y:Int} {i j:Nat} (hij:0<i+j) (hx:x.natAbs<10^i) (hy:y.natAbs<10^j):digs (x*y)<=i+j:=by
 rw[za3 _ _ hij,yK,Nat.pow_add]
 exact Nat.mul_lt_mul'' hx hy
theorem zn4 {x y i j:Nat} (hij:0<i+j) (hx:x<10^i) (hy:y<10^j):(zD (x*y)).length<=i+j:=by
 rw[zaf _ _ hij,Nat.pow_add]
 exact Nat.mul_lt_mul'' hx hy
theorem zth {x y:Int} {k:Nat} (hk:0<k) (hx:digs x<=k) (hy:digs y<=k):digs (x+y)<=k+1:=zhz hk hx hy
theorem zxy (p q:Rat) (hp:okN p) (hq:okN q) (np:zbc p) (nq:zbc q) (w:zA):
 qJ 191 #[St (numS p),St (numS q)] w (.tuple #[St (numS (p+q)),.int .i64 0]):=by
 rw[zf0]
 have c1:=λW=>zef p hp np W
 have c2:=λW=>zef q hq nq W
 obtain⟨b1,b2⟩:=zjk np
 obtain⟨b3,b4⟩:=zjk nq
 have hdp:=p.den_pos;have hdq:=q.den_pos
 have m1:(p.num*q.den).natAbs<=999999998000000001:=by
  rw[yK,Int.natAbs_natCast];exact Nat.mul_le_mul (show p.num.natAbs<=999999999 by omega) (show q.den<=999999999 by omega)
 have m2:(q.num*p.den).natAbs<=999999998000000001:=by
  rw[yK,Int.natAbs_natCast];exact Nat.mul_le_mul (show q.num.natAbs<=999999999 by omega) (show p.den<=999999999 by omega)
 have m3:p.den*q.den<=999999998000000001:=Nat.mul_le_mul (show p.den<=999999999 by omega) (show q.den<=999999999 by omega)
 have m4:0<p.den*q.den:=Nat.mul_pos hdp hdq
 have qk:=λW=>zhg (p.num*q.den+q.num*p.den) (p.den*q.den) (by omega) m4 (by omega) W
 have e1:IntKind.i64.wrap (p.num*q.den)=p.num*q.den:=zI _ (by omega)
 have e2:IntKind.i64.wrap (q.num*p.den)=q.num*p.den:=zI _ (by omega)
 have e3:IntKind.i64.wrap (p.num*q.den+q.num*p.den)=p.num*q.den+q.num*p.den:=zI _ (by omega)
 have e4:IntKind.i64.wrap ((p.den:Int)*q.den)=((p.den*q.den:Nat):Int):=by rw[<-Int.natCast_mul];exact zI _ (by omega)
 obtain⟨D,hD⟩:∃D,D=p.den*q.den:=⟨_,rfl⟩
 rw[<-hD] at qk e4⊢
 have C1:=hid c1;have C2:=hid c2;have QK:=hid qk
 clear c1 c2 qk np nq hp hq b1 b2 b3 b4 hdp hdq m1 m2 m3 m4 hD
 generalize numS (Rat.divInt (p.num*q.den+q.num*p.den) (D:Int))=t at*
 generalize numS p=sp at*
 generalize numS q=sq at*
 generalize p.num=a at*
 generalize q.num=b at*
 generalize p.den=c at*
 generalize q.den=d at*
 go_enter Tryz.func191,Tryz.ntmps191
 go_wp2_with fail
 refine(C1.out w).mono ?_
 rintro e w1 ⟨rfl,hb1⟩
 have HB1:=hid hb1;clear hb1
 go_wp2_with fail
 refine(C2.out w1).mono ?_
 rintro e w2 ⟨rfl,hb2⟩
 have HB2:=qT HB1 hb2;clear hb2
 go_wp2_with fail
 refine(QK.out w2).mono ?_
 rintro e w3 ⟨rfl,hb3⟩
 have HB3:=qT HB2 hb3;clear hb3
 go_wp2_with fail
 go_ret2
 exact⟨rfl,HB3.out⟩
instance (q:Rat):Decidable (zbc q):=by unfold zbc;infer_instance
theorem zfu (q:Rat) (h:okN q) (w:zA):
 zC zF 146 #[St (numS q)] w λe w'=>(∃a b:Int,e=.returned (.tuple #[.int .i64 a,.int .i64 b,.bool (decide (zbc q))]))/\Below w.heap.size w w':=by
 by_cases hn:zbc q
 ·rw[decide_eq_true hn]
  exact(zef q h hn w).mono λe w' ⟨h1,h2⟩=>⟨⟨_,_,h1⟩,h2⟩
 ·rw[decide_eq_false hn]
  exact(zxr q h hn w).mono λe w' ⟨h1,h2⟩=>⟨⟨_,_,h1⟩,h2⟩
theorem zxz:zE 1=[49]:=by rw[show(1:Int)=((1:Nat):Int) from rfl,Str.zad];decide+kernel
theorem zz2 (p q:Rat) (i j:Nat) (hi:0<i) (hj:0<j) (hij:i+j<300) (sp:sz p i) (sq:sz q j) (hf:¬(zbc p/\zbc q)) (w:zA) (hw:Wd w):
 qJ 191 #[St (numS p),St (numS q)] w (.tuple #[St (numS (p+q)),.int .i64 0]):=by
 rw[zf0]
 have hp:=zc1 hi (by omega) sp
 have hq:=zc1 hj (by omega) sq
 have c1:=λW=>zfu p hp W
 have c2:=λW=>zfu q hq W
 have c3:=λW=>zee p hp W
 have c4:=λW=>zee q hq W
 have dg:∀k:Nat,digs (k:Int)=(zD k).length:=λk=>by unfold digs;rw[Int.natAbs_natCast]
 have x1:digs (p.num*q.den)<=i+j:=zfb (by omega) sp.1 (by rw[Int.natAbs_natCast];exact sq.2)
 have x2:digs (q.num*p.den)<=i+j:=by rw[Nat.add_comm];exact zfb (by omega) sq.1 (by rw[Int.natAbs_natCast];exact sp.2)
 have x3:(zD (p.den*q.den)).length<=i+j:=zn4 (by omega) sp.2 sq.2
 have x4:digs (p.num*q.den+q.num*p.den)<=i+j+1:=zth (by omega) x1 x2
 have c5:=λW hW=>zff p.num (q.den:Int) q.num (p.den:Int) hp.1 (by rw[dg];exact hq.2) hq.1 (by rw[dg];exact hp.2) (by omega) (by omega) W hW
 have c6:=λW hW=>zff (p.den:Int) (q.den:Int) 1 1 (by rw[dg];exact hp.2) (by rw[dg];exact hq.2) (by decide+kernel) (by decide+kernel) (by rw[<-Int.natCast_mul,dg];omega) (by decide+kernel) W hW
 have c7:=λW hW=>zzz (p.num*q.den) (q.num*p.den) (by omega) (by omega) (by omega) W hW
 have c8:=λW hW=>zn3 (p.num*q.den+q.num*p.den) (p.den*q.den) (Nat.mul_pos p.den_pos q.den_pos) (by omega) (by omega) W hW
 rw[Int.mul_one,zxz,Str.zad,Str.zad,<-Int.natCast_mul,Str.zad] at c6
 rw[Str.zad,Str.zad] at c5
 have hcase:(decide (zbc p)=false)\/(decide (zbc p)=true/\decide (zbc q)=false):=by
  by_cases h1:zbc p
  ·right;exact⟨decide_eq_true h1,decide_eq_false (λh2=>hf ⟨h1,h2⟩)⟩
  ·left;exact decide_eq_false h1
 have C1:=hid c1;have C2:=hid c2;have C3:=hid c3;have C4:=hid c4;have C5:=hid c5;have C6:=hid c6;have C7:=hid c7;have C8:=hid c8;have HW:=hid hw
 clear c1 c2 c3 c4 c5 c6 c7 c8 hw hp hq dg x1 x2 x3 x4 sp sq hf
 generalize numS (Rat.divInt (p.num*q.den+q.num*p.den) ((p.den*q.den:Nat):Int))=t at*
 generalize zE (p.num*q.den+q.num*p.den)=sum at*
 generalize zE (p.num*q.den)=m1 at*
 generalize zE (q.num*p.den)=m2 at*
 generalize zD (p.den*q.den)=m3 at*
 generalize numS p=tp at*
 generalize numS q=tq at*
 generalize zE p.num=n1 at*
 generalize zE q.num=n2 at*
 generalize zD p.den=d1 at*
 generalize zD q.den=d2 at*
 generalize decide (zbc p)=b1 at*
 generalize decide (zbc q)=b2 at*
 go_enter Tryz.func191,Tryz.ntmps191
 go_wp2_with fail
 refine(C1.out w).mono ?_
 rintro e w1 ⟨⟨za,zb,rfl⟩,hb1⟩
 have HB1:=hid hb1;clear hb1
 go_wp2_with fail
 refine(C2.out w1).mono ?_
 rintro e w2 ⟨⟨zc,zd,rfl⟩,hb2⟩
 have HB2:=qT HB1 hb2;clear hb2
 rcases hcase with rfl|⟨rfl,rfl⟩<;>(
  go_wp2_with fail
  refine(C3.out w2).mono ?_
  rintro e w3 ⟨rfl,hb3⟩
  have HB3:=qT HB2 hb3;clear hb3
  go_wp2_with fail
  refine(C4.out w3).mono ?_
  rintro e w4 ⟨rfl,hb4⟩
  have HB4:=qT HB3 hb4;clear hb4
  go_wp2_with fail
  refine(C5.out w4 (HW.out.below HB4.out)).mono ?_
  rintro e w5 ⟨rfl,hb5⟩
  have HB5:=qT HB4 hb5;clear hb5
  go_wp2_with fail
  refine(C6.out w5 (HW.out.below HB5.out)).mono ?_
  rintro e w6 ⟨rfl,hb6⟩
  have HB6:=qT HB5 hb6;clear hb6
  go_wp2_with fail
  refine(C7.out w6 (HW.out.below HB6.out)).mono ?_
  rintro e w7 ⟨rfl,hb7⟩
  have HB7:=qT HB6 hb7;clear hb7
  go_wp2_with fail
  refine(C8.out w7 (HW.out.below HB7.out)).mono ?_
  rintro e w8 ⟨rfl,hb8⟩
  have HB8:=qT HB7 hb8;clear hb8
  go_wp2_with fail
  go_ret2
  exact⟨rfl,HB8.out⟩)
theorem zz3 (p q:Rat) (i j:Nat) (hi:0<i) (hj:0<j) (hij:i+j<300) (sp:sz p i) (sq:sz q j) (w:zA) (hw:Wd w):
 qJ 191 #[St (numS p),St (numS q)] w (.tuple #[St (numS (p+q)),.int .i64 0]):=by
 by_cases h:zbc p/\zbc q
 ·exact zxy p q (zc1 hi (by omega) sp) (zc1 hj (by omega) sq) h.1 h.2 w
 ·exact zz2 p q i j hi hj hij sp sq h w hw
theorem z28 {q:Rat} {k:Nat} (h:sz q k):sz (-q) k:=by
 refine⟨?_,h.2⟩
 show(-q.num).natAbs<10^k
 rw[Int.natAbs_neg];exact h.1
theorem zz4 (p q:Rat) (i j:Nat) (hi:0<i) (hj:0<j) (hij:i+j<300) (sp:sz p i) (sq:sz q j) (w:zA) (hw:Wd w):
 qJ 144 #[St (numS p),St (numS q)] w (.tuple #[St (numS (p-q)),.int .i64 0]):=by
 have hp:=zc1 hi (by omega) sp
 have hq:=zc1 hj (by omega) sq
 have c1:=λW hW=>zf7 p q hp hq W hW
 have c2:=λW=>zz1 q hq W
 have c3:=λW hW=>zz3 p (-q) i j hi hj hij sp (z28 sq) W hW
 rw[show p+ -q=p-q from(Rat.sub_eq_add_neg p q).symm] at c3
 have C1:=hid c1;have C2:=hid c2;have C3:=hid c3;have HW:=hid hw
 clear c1 c2 c3 hw hp hq sp sq
 generalize numS (p-q)=t at*
 generalize numS (-q)=nq at*
 generalize numS p=tp at*
 generalize numS q=tq at*
 go_enter Tryz.func144,Tryz.ntmps144
 go_wp2_with fail
 refine(C1.out w HW.out).mono ?_
 rintro e w1 ⟨rfl,hb1⟩
 have HB1:=hid hb1;clear hb1
 go_wp2_with fail
 refine(C2.out w1).mono ?_
 rintro e w2 ⟨rfl,hw2⟩
 have hw2':=hw2.symm;subst hw2'
 go_wp2_with fail
 refine(C3.out w1 (HW.out.below HB1.out)).mono ?_
 rintro e w3 ⟨rfl,hb3⟩
 have HB3:=qT HB1 hb3;clear hb3
 go_wp2_with fail
 go_ret2
 exact⟨rfl,HB3.out⟩
end Go.Proofs.YthfpmfdiamldoaaGreatDoor
