/- rational.cut, at any string. -/
import Derived.Test.YtfoodcpnnmonhaaGreatDoorZ13
set_option maxRecDepth 100000
set_option maxHeartbeats 8000000
open Go renaming World → zA, Calls → zC
open Go.Lib renaming decDigits → zD
open Go.Proofs.Tryz renaming prog → zF
open Go.World renaming alloc_heap_new → zG, size_alloc → zH
open Go.IntWalk renaming i64_in → zI
open Go.Joins renaming cell_of_block → zJ
open Go.RowKit renaming intOf → zL
open Go.RowKit.Below renaming refl → zM
open Nat renaming le_refl → zN, le_trans → zO, zero_le → zR, lt_of_lt_of_le → zS, pow_le_pow_right → yF, pos_of_ne_zero → yS
open List renaming mem_cons_self → yD, append_nil → yH, cons_append → yM
namespace Go.Proofs.YtfoodcpnnmonhaaGreatDoor
section
open Go.RowKit Go.Shelf Lib Str Limb
attribute [local go_sem] Oper.semAt_some
structure CutQ (s sn sd own:ByteArray) (is neg:Bool):Prop where
 CUT:Hid (∀W:zA,Wd W->zC zF 176 #[.string s,.string ⟨#[47]⟩] W λe w'=>e=.returned (.tuple #[.string sn,.string sd,.bool is])/\∃n,w'=W.drewN n)
 CP:Hid (∀W:zA,zC zF 129 #[.string sn,.string ⟨#[45]⟩] W λe w'=>e=.returned (.tuple #[.string own,.bool neg])/\w'=W)
def DigY (t:ByteArray):Prop:=((t.size:Int)==0)=false/\∀W:zA,zC zF 177 #[.string t] W λe w'=>e=.returned (.int .i64 (t.size:Int))/\w'=W
def DigN (t:ByteArray):Prop:=∀W:zA,zC zF 177 #[.string t] W λe w'=>∃r:Nat,e=.returned (.int .i64 (r:Int))/\(((r:Int)==0)=true\/(((r:Int)==0)=false/\(r:Int)<(t.size:Int)))/\w'=W
theorem z7x (t:ByteArray) (ht:t.data.toList.length<=1000000):(zcb t.data.toList/\DigY t)\/(¬zcb t.data.toList/\DigN t):=by
 have hsz:t.size=t.data.toList.length:=by simp
 have hst:(.string t:Value)=St t.data.toList:=rfl;by_cases h:zcb t.data.toList
 ·refine .inl ⟨h,?_,λW=>?_⟩
  ·rw[beq_eq_false_iff_ne,hsz]
   have:=List.length_pos_iff.2 h.1;omega
  ·rw[hst]
   refine(zp8 _ ht W).mono ?_;rintro e w' ⟨r,rfl,⟨_,h2⟩,h3⟩;have:=(h2.2 h).2;exact⟨by rw[hsz,this],h3⟩
 ·refine .inr ⟨h,λW=>?_⟩
  rw[hst];refine(zp8 _ ht W).mono ?_;rintro e w' ⟨r,rfl,⟨h1,h2⟩,h3⟩;refine⟨r,rfl,?_,h3⟩;by_cases h0:r=0
  ·exact .inl (by simp[h0])
  ·refine .inr ⟨by rw[beq_eq_false_iff_ne];omega,?_⟩
   have:r≠t.data.toList.length:=λe=>h (h2.1 ⟨h0,e⟩);rw[hsz];omega
theorem z83 (s sn sd own:ByteArray) (is:Bool) (neg:Bool) (q:CutQ s sn sd own is neg) (H1:Hid (DigN own)) (w:zA) (HW:Hid (Wd w)):
 qJ 113 #[.string s] w (.tuple #[.agg #[St [],St []],.bool false]):=by
 obtain⟨CUT,CP⟩:=q
 all_goals
  go_enter Tryz.func113,Tryz.ntmps113;go_wp21;refine(CUT.out _ (HW.out.below ((zM _ w).alloc (zN _) _))).mono ?_;rintro e w1 ⟨rfl,nd,rfl⟩;go_wp21;refine(CP.out _).mono ?_;rintro e w1 ⟨rfl,rfl⟩;go_wp21;refine(H1.out _).mono ?_;rintro e w1 ⟨r,rfl,hz,rfl⟩;rcases hz with h1|⟨h1,h2⟩
  all_goals
   go_wp21;refine bodyPost_ret (v:=.tuple #[.agg #[St [],St []],.bool false]) (by simp[results,Tryz.results113,go_sem]) rfl ⟨rfl,?_⟩
   repeat(first|exact zM _ _|refine Below.alloc ?_ (by simp) _|refine zao ?_ _|refine Below.setCell ?_ (by simp) _)
theorem z84 (s sn sd own:ByteArray) (is:Bool) (neg:Bool) (q:CutQ s sn sd own is neg) (H1:Hid (DigY own)) (h3:neg=true) (h4:(own.toList==[48])=true) (w:zA) (HW:Hid (Wd w)):
 qJ 113 #[.string s] w (.tuple #[.agg #[St [],St []],.bool false]):=by
 obtain⟨CUT,CP⟩:=q;obtain⟨h1,D1⟩:=H1.out;have D1:=hid D1;have h2:¬(own.size:Int)<(own.size:Int):=by omega
 subst h3
 all_goals
  go_enter Tryz.func113,Tryz.ntmps113;go_wp21;refine(CUT.out _ (HW.out.below ((zM _ w).alloc (zN _) _))).mono ?_;rintro e w1 ⟨rfl,nd,rfl⟩;go_wp21;refine(CP.out _).mono ?_;rintro e w1 ⟨rfl,rfl⟩;go_wp21;refine(D1.out _).mono ?_;rintro e w1 ⟨rfl,rfl⟩;go_wp21;refine bodyPost_ret (v:=.tuple #[.agg #[St [],St []],.bool false]) (by simp[results,Tryz.results113,go_sem]) rfl ⟨rfl,?_⟩
  repeat(first|exact zM _ _|refine Below.alloc ?_ (by simp) _|refine zao ?_ _|refine Below.setCell ?_ (by simp) _)
theorem z86 (s sn sd own:ByteArray) (neg:Bool) (q:CutQ s sn sd own false neg) (H1:Hid (DigY own)) (hz:neg=false\/(neg=true/\(own.toList==[48])=false)) (w:zA) (HW:Hid (Wd w)):
 qJ 113 #[.string s] w (.tuple #[.agg #[.string sn,St [49]],.bool true]):=by
 obtain⟨CUT,CP⟩:=q;obtain⟨h1,D1⟩:=H1.out;have D1:=hid D1;have h2:¬(own.size:Int)<(own.size:Int):=by omega
 rcases hz with rfl|⟨rfl,h4⟩
 all_goals
  go_enter Tryz.func113,Tryz.ntmps113;go_wp21;refine(CUT.out _ (HW.out.below ((zM _ w).alloc (zN _) _))).mono ?_;rintro e w1 ⟨rfl,nd,rfl⟩;go_wp21;refine(CP.out _).mono ?_;rintro e w1 ⟨rfl,rfl⟩;go_wp21;refine(D1.out _).mono ?_;rintro e w1 ⟨rfl,rfl⟩;go_wp21;refine bodyPost_ret (v:=.tuple #[.agg #[.string sn,St [49]],.bool true]) (by simp[results,Tryz.results113,go_sem]) rfl ⟨rfl,?_⟩
  repeat(first|exact zM _ _|refine Below.alloc ?_ (by simp) _|refine zao ?_ _|refine Below.setCell ?_ (by simp) _)
theorem z88 (s sn sd own:ByteArray) (neg:Bool) (q:CutQ s sn sd own true neg) (H1:Hid (DigY own)) (hz:neg=false\/(neg=true/\(own.toList==[48])=false)) (H2:Hid (DigN sd)) (w:zA) (HW:Hid (Wd w)):
 qJ 113 #[.string s] w (.tuple #[.agg #[St [],St []],.bool false]):=by
 obtain⟨CUT,CP⟩:=q;obtain⟨h1,D1⟩:=H1.out;have D1:=hid D1;have h2:¬(own.size:Int)<(own.size:Int):=by omega
 rcases hz with rfl|⟨rfl,h4⟩
 all_goals
  go_enter Tryz.func113,Tryz.ntmps113;go_wp21;refine(CUT.out _ (HW.out.below ((zM _ w).alloc (zN _) _))).mono ?_;rintro e w1 ⟨rfl,nd,rfl⟩;go_wp21;refine(CP.out _).mono ?_;rintro e w1 ⟨rfl,rfl⟩;go_wp21;refine(D1.out _).mono ?_;rintro e w1 ⟨rfl,rfl⟩;go_wp21;refine(H2.out _).mono ?_;rintro e w1 ⟨r,rfl,hz,rfl⟩;rcases hz with k1|⟨k1,k2⟩
  all_goals
   go_wp21;refine bodyPost_ret (v:=.tuple #[.agg #[St [],St []],.bool false]) (by simp[results,Tryz.results113,go_sem]) rfl ⟨rfl,?_⟩
   repeat(first|exact zM _ _|refine Below.alloc ?_ (by simp) _|refine zao ?_ _|refine Below.setCell ?_ (by simp) _)
theorem z28 (s sn sd own:ByteArray) (neg:Bool) (q:CutQ s sn sd own true neg) (H1:Hid (DigY own)) (hz:neg=false\/(neg=true/\(own.toList==[48])=false)) (H2:Hid (DigY sd)) (hy:(sd.toList==[48])=true\/((sd.toList==[48])=false/\(sd.toList==[49])=true)) (w:zA) (HW:Hid (Wd w)):
 qJ 113 #[.string s] w (.tuple #[.agg #[St [],St []],.bool false]):=by
 obtain⟨CUT,CP⟩:=q;obtain⟨h1,D1⟩:=H1.out;have D1:=hid D1;have h2:¬(own.size:Int)<(own.size:Int):=by omega
 obtain⟨k1,D2⟩:=H2.out;have D2:=hid D2;have k2:¬(sd.size:Int)<(sd.size:Int):=by omega
 rcases hz with rfl|⟨rfl,h4⟩<;>rcases hy with k3|⟨k3,k4⟩
 all_goals
  go_enter Tryz.func113,Tryz.ntmps113;go_wp21;refine(CUT.out _ (HW.out.below ((zM _ w).alloc (zN _) _))).mono ?_;rintro e w1 ⟨rfl,nd,rfl⟩;go_wp21;refine(CP.out _).mono ?_;rintro e w1 ⟨rfl,rfl⟩;go_wp21;refine(D1.out _).mono ?_;rintro e w1 ⟨rfl,rfl⟩;go_wp21;refine(D2.out _).mono ?_;rintro e w1 ⟨rfl,rfl⟩;go_wp21;refine bodyPost_ret (v:=.tuple #[.agg #[St [],St []],.bool false]) (by simp[results,Tryz.results113,go_sem]) rfl ⟨rfl,?_⟩
  repeat(first|exact zM _ _|refine Below.alloc ?_ (by simp) _|refine zao ?_ _|refine Below.setCell ?_ (by simp) _)
theorem z9c (s sn sd own:ByteArray) (neg:Bool) (q:CutQ s sn sd own true neg) (H1:Hid (DigY own)) (hz:neg=false\/(neg=true/\(own.toList==[48])=false)) (H2:Hid (DigY sd)) (k3:(sd.toList==[48])=false) (k4:(sd.toList==[49])=false) (w:zA) (HW:Hid (Wd w)):
 qJ 113 #[.string s] w (.tuple #[.agg #[.string sn,.string sd],.bool true]):=by
 obtain⟨CUT,CP⟩:=q;obtain⟨h1,D1⟩:=H1.out;have D1:=hid D1;have h2:¬(own.size:Int)<(own.size:Int):=by omega
 obtain⟨k1,D2⟩:=H2.out;have D2:=hid D2;have k2:¬(sd.size:Int)<(sd.size:Int):=by omega
 rcases hz with rfl|⟨rfl,h4⟩
 all_goals
  go_enter Tryz.func113,Tryz.ntmps113;go_wp21;refine(CUT.out _ (HW.out.below ((zM _ w).alloc (zN _) _))).mono ?_;rintro e w1 ⟨rfl,nd,rfl⟩;go_wp21;refine(CP.out _).mono ?_;rintro e w1 ⟨rfl,rfl⟩;go_wp21;refine(D1.out _).mono ?_;rintro e w1 ⟨rfl,rfl⟩;go_wp21;refine(D2.out _).mono ?_;rintro e w1 ⟨rfl,rfl⟩;go_wp21;refine bodyPost_ret (v:=.tuple #[.agg #[.string sn,.string sd],.bool true]) (by simp[results,Tryz.results113,go_sem]) rfl ⟨rfl,?_⟩
  repeat(first|exact zM _ _|refine Below.alloc ?_ (by simp) _|refine zao ?_ _|refine Below.setCell ?_ (by simp) _)
end
section
open Go.RowKit Go.Shelf Lib Str Limb
def zn6 (l:List UInt8):Prop:=zcb (upS l)/\¬(l.head? =some 45/\upS l=[48])/\(hasS l->zcb (dnS l)/\dnS l≠[48]/\dnS l≠[49])
def nuS (l:List UInt8):List UInt8:=l.takeWhile (· !=47)
theorem z29 (b:List UInt8):nuS (45::b)=45::b.takeWhile (· !=47):=by unfold nuS;rw[List.takeWhile_cons];rfl
theorem z6b (l:List UInt8):Lib.trimPrefix (nuS l) [45]=upS l/\Lib.hasPrefix (nuS l) [45]=decide (l.head? =some 45):=by
 rcases zgm l with⟨h1,h2⟩|⟨h1,h2⟩
 ·have e:nuS l=45::upS l:=by
   unfold upS
   conv=>lhs;rw[h2]
   exact z29 _
  rw[e,decide_eq_true h1];exact⟨rfl,rfl⟩
 ·have e:nuS l=upS l:=by unfold upS nuS;rw[<-h2]
  have hp:Lib.hasPrefix (nuS l) [45]=false:=by
   cases l with
   |nil=>rfl
   |cons a r=>
    unfold nuS;rw[List.takeWhile_cons];have ha:a≠45:=λe=>h1 (by rw[e];rfl);split
    ·show([45]:List UInt8).isPrefixOf (a::_)=false
     simp[List.isPrefixOf];exact λe=>absurd e.symm ha
    ·rfl
  rw[hp,decide_eq_false h1];unfold Lib.trimPrefix;rw[hp,e];exact⟨rfl,rfl⟩
theorem zvh {b:List UInt8} (h:(47:UInt8)∈b):b=b.takeWhile (· !=47)++47::(b.dropWhile (· !=47)).tail/\(47:UInt8)∉b.takeWhile (· !=47):=by
 have h2:(47:UInt8)∉b.takeWhile (· !=47):=by
  clear h
  induction b with
  |nil=>simp
  |cons a r ih=>
   rw[List.takeWhile_cons];split
   ·rename_i ha
    intro m;rcases List.mem_cons.1 m with e|m
    ·rw[<-e] at ha;simp at ha
    ·exact ih m
   ·simp
 refine⟨?_,h2⟩;have h1:=List.takeWhile_append_dropWhile (p:=(· !=(47:UInt8))) (l:=b)
 cases hd:b.dropWhile (· !=47) with
 |nil=>
  rw[hd,yH] at h1;rw[<-h1] at h;exact absurd h h2
 |cons a r=>
  have ha:a=47:=by
   have:=List.head_dropWhile_not (· !=(47:UInt8)) (l:=b) (by rw[hd];simp);simp only[hd,List.head_cons] at this;simpa using this
  rw[hd,ha] at h1;exact h1.symm
theorem z9d (l:List UInt8):Lib.cut l [47]=(nuS l,dnS l,decide ((47:UInt8)∈bare l)):=by
 have hb:(47:UInt8)∈bare l↔(47:UInt8)∈l:=by
  rcases zgm l with⟨_,h2⟩|⟨_,h2⟩
  ·conv=>rhs;rw[h2]
   simp
  ·rw[<-h2]
 have hd:dnS l=(l.dropWhile (· !=47)).tail:=by
  unfold dnS;rcases zgm l with⟨_,h2⟩|⟨_,h2⟩
  ·conv=>rhs;rw[h2,List.dropWhile_cons]
   rfl
  ·rw[<-h2]
 rw[hd];by_cases h:(47:UInt8)∈l
 ·obtain⟨e,h2⟩:=zvh h
  rw[decide_eq_true (hb.2 h)]
  conv=>lhs;rw[e]
  exact z1l _ _ h2
 ·rw[decide_eq_false (λk=>h (hb.1 k)),z2u _ h]
  unfold nuS;obtain⟨e1,e2,_⟩:=zpm l (λj hj e=>h (by rw[<-e];exact List.getElem_mem hj));rw[e1,e2]
theorem z4x (l:List UInt8) (hl:l.length<=1000) (w:zA) (hw:Wd w):
 zC zF 113 #[St l] w λe w'=>((zn6 l/\((hasS l/\e=.returned (.tuple #[.agg #[St (nuS l),St (dnS l)],.bool true]))\/(¬hasS l/\e=.returned (.tuple #[.agg #[St (nuS l),St [49]],.bool true]))))\/(¬zn6 l/\e=.returned (.tuple #[.agg #[St [],St []],.bool false])))/\Below w.heap.size w w':=by
 have lu:(upS l).length<=1000:=by
  have h1:(upS l).length<=(bare l).length:=(List.takeWhile_sublist _).length_le;have h2:(bare l).length<=l.length:=by unfold bare;split<;>simp
  omega
 have ld:(dnS l).length<=1000:=by
  have h1:((bare l).dropWhile (· !=47)).length<=(bare l).length:=(List.dropWhile_sublist _).length_le;have h2:(bare l).length<=l.length:=by unfold bare;split<;>simp
  have h3:(dnS l).length=((bare l).dropWhile (· !=47)).length-1:=by unfold dnS;rw[List.length_tail]
  omega
 have hq:CutQ ⟨l.toArray⟩ ⟨(nuS l).toArray⟩ ⟨(dnS l).toArray⟩ ⟨(upS l).toArray⟩ (decide ((47:UInt8)∈bare l)) (decide (l.head? =some 45)):=by
  refine⟨hid λW hW=>?_,hid λW=>?_⟩
  ·obtain⟨m,hm⟩:=hW.maxl
   have:=Tryz.strings_Cut ⟨l.toArray⟩ ⟨#[47]⟩ m W (by show l.toArray.size<_;rw[List.size_toArray];omega) hm;rw[show(⟨l.toArray⟩:ByteArray).data.toList=l from rfl,show(⟨#[47]⟩:ByteArray).data.toList=[47] from rfl,z9d] at this;exact this
  ·have:=Tryz.strings_CutPrefix ⟨(nuS l).toArray⟩ ⟨#[45]⟩ W
   rw[show(⟨(nuS l).toArray⟩:ByteArray).data.toList=nuS l from rfl,show(⟨#[45]⟩:ByteArray).data.toList=[45] from rfl,(z6b l).1,(z6b l).2] at this;exact this
 have b48:∀(x k:List UInt8),((⟨x.toArray⟩:ByteArray).toList==k)=decide (x=k):=λx k=>by rw[zfo rfl];by_cases h:x=k<;>simp[h]
 show zC _ _ #[.string ⟨l.toArray⟩] _ _;rcases z7x ⟨(upS l).toArray⟩ (by show(upS l).length<=_;omega) with⟨h1,g1⟩|⟨h1,g1⟩
 ·replace h1:zcb (upS l):=h1
  by_cases h2:l.head? =some 45/\upS l=[48]
  ·refine zzM (z84 _ _ _ _ _ _ hq (hid g1) (decide_eq_true h2.1) (by rw[b48];exact decide_eq_true h2.2) w (hid hw)) λw' hb=>?_
   exact⟨.inr ⟨λk=>k.2.1 h2,rfl⟩,hb⟩
  ·have hz:decide (l.head? =some 45)=false\/(decide (l.head? =some 45)=true/\((⟨(upS l).toArray⟩:ByteArray).toList==[48])=false):=by
    by_cases k:l.head? =some 45
    ·exact .inr ⟨decide_eq_true k,by rw[b48];exact decide_eq_false (λe=>h2 ⟨k,e⟩)⟩
    ·exact .inl (decide_eq_false k)
   by_cases hs:(47:UInt8)∈bare l
   ·rw[decide_eq_true hs] at hq
    rcases z7x ⟨(dnS l).toArray⟩ (by show(dnS l).length<=_;omega) with⟨h3,g2⟩|⟨h3,g2⟩
    ·replace h3:zcb (dnS l):=h3
     by_cases h4:dnS l=[48]
     ·refine zzM (z28 _ _ _ _ _ hq (hid g1) hz (hid g2) (.inl (by rw[b48];exact decide_eq_true h4)) w (hid hw)) λw' hb=>?_
      exact⟨.inr ⟨λk=>(k.2.2 hs).2.1 h4,rfl⟩,hb⟩
     ·by_cases h5:dnS l=[49]
      ·refine zzM (z28 _ _ _ _ _ hq (hid g1) hz (hid g2) (.inr ⟨by rw[b48];exact decide_eq_false h4,by rw[b48];exact decide_eq_true h5⟩) w (hid hw)) λw' hb=>?_
       exact⟨.inr ⟨λk=>(k.2.2 hs).2.2 h5,rfl⟩,hb⟩
      ·refine zzM (z9c _ _ _ _ _ hq (hid g1) hz (hid g2) (by rw[b48];exact decide_eq_false h4) (by rw[b48];exact decide_eq_false h5) w (hid hw)) λw' hb=>?_
       exact⟨.inl ⟨⟨h1,h2,λ_=>⟨h3,h4,h5⟩⟩,.inl ⟨hs,rfl⟩⟩,hb⟩
    ·refine zzM (z88 _ _ _ _ _ hq (hid g1) hz (hid g2) w (hid hw)) λw' hb=>?_
     exact⟨.inr ⟨λk=>h3 (k.2.2 hs).1,rfl⟩,hb⟩
   ·rw[decide_eq_false hs] at hq
    refine zzM (z86 _ _ _ _ _ hq (hid g1) hz w (hid hw)) λw' hb=>?_;exact⟨.inl ⟨⟨h1,h2,λk=>absurd k hs⟩,.inr ⟨hs,rfl⟩⟩,hb⟩
 ·refine zzM (z83 _ _ _ _ _ _ hq (hid g1) w (hid hw)) λw' hb=>?_
  exact⟨.inr ⟨λk=>h1 k.1,rfl⟩,hb⟩
end
section
open Go.RowKit Go.Shelf Lib Str Limb
attribute [local go_sem] Oper.semAt_some
theorem zyg (n d:Nat) (hl:(zD n).length<=8) (hl2:(zD d).length<=8) (hd:2<=d) (hg:Nat.gcd n d≠1) (w:zA):
 qJ 55 #[St (zD n++47::zD d)] w (.tuple #[.agg #[.int .i64 0,.int .i64 0],.bool false]):=by
 obtain⟨s,hs⟩:=zzX (⟨(zD n++47::zD d).toArray⟩:ByteArray);obtain⟨s1,s2,s3,s4⟩:=zco (zD n++47::zD d) (by simp) s hs;obtain⟨r,hr⟩:=zzX (⟨(47::zD d).toArray⟩:ByteArray);obtain⟨r1,r2,r3,r4⟩:=zco (47::zD d) (by simp) r hr;have r5:r.extract 1 r.size=⟨(zD d).toArray⟩:=by rw[hr];exact ze9 _ _
 have hc:=zcn n (47::zD d) (zf3 n _) hl (by simp;omega);have hc2:=zcn d [] (zd7 d) hl2 (by simp);rw[yH] at hc2;have hgc:=λW=>zj0 n d (zS ((zaf n 8 (by omega)).1 hl) (by omega)) (zS ((zaf d 8 (by omega)).1 hl2) (by omega)) W;have hg1:((Nat.gcd n d:Int)==1)=false:=by rw[beq_eq_false_iff_ne];omega
 have hg2:((Nat.gcd n d:Int) !=1)=true:=by rw[bne,hg1];rfl
 generalize Nat.gcd n d=g at*
 show zC _ _ #[.string ⟨(zD n++47::zD d).toArray⟩] _ _;obtain⟨u,hu⟩:=zzX (⟨(zD n++47::zD d).toArray⟩:ByteArray);obtain⟨v,hv⟩:=zzX (⟨(zD d).toArray⟩:ByteArray);have hus:u.size=(zD n++47::zD d).length:=by rw[hu];show(zD n++47::zD d).toArray.size=_;simp
 have hc':∀w,zC zF 110 #[.string u] w λe w'=>∃nd,e=.returned (.tuple #[I n,.string r,.bool true])/\w'=w.drewN nd:=by rw[hu,hr];exact hc
 have hc2':∀w,zC zF 110 #[.string v] w λe w'=>∃nd,e=.returned (.tuple #[I d,St [],.bool true])/\w'=w.drewN nd:=by rw[hv];exact hc2
 rw[<-hs];rw[<-hv] at r5;have r47:(((r[0]'r2).toNat:Int) !=47)=false:=by rw[r4 r2];rfl
 have r1':(1:Int)<=r.size:=by omega
 obtain⟨c,q,hdn,hc1,hc2⟩:=dec_head n;have h45:(((s[0]'s2).toNat:Int)==45)=false:=by
  rw[beq_eq_false_iff_ne,s4 s2];simp only[hdn,yM,List.head_cons];omega
 have hsu:s=u:=hs.trans hu.symm;have hnb:n<1000000000:=zS ((zaf n 8 (by omega)).1 hl) (by omega);have hd2:¬(d:Int)<2:=by omega
 have HC:=hid hc';have HC2:=hid hc2';have HG:=hid hgc;clear hc hc' hc2 hc2' hgc hs hr r3 r4 hu hus hl hl2 hg hv s3 s4 hdn;subst hsu;go_enter Tryz.func55,Tryz.ntmps55;go_wp21;refine(HC.out _).mono ?_;rintro e w1 ⟨nd,rfl,rfl⟩;go_wp21;refine(HC2.out _).mono ?_;rintro e w1 ⟨nd2,rfl,rfl⟩;go_wp21;refine(HG.out _).mono ?_;rintro e w1 ⟨nd3,rfl,rfl⟩;go_wp21;refine bodyPost_ret (v:=.tuple #[.agg #[.int .i64 0,.int .i64 0],.bool false]) (by simp[results,Tryz.results55,go_sem]) rfl ⟨rfl,?_⟩
 repeat(first|exact zM _ _|refine Below.alloc ?_ (by simp[World.drewN]) _|refine zao ?_ _|refine Below.setCell ?_ (by simp) _)
theorem zpk (n d:Nat) (h0:0<n) (hl:(zD n).length<=8) (hl2:(zD d).length<=8) (hd:2<=d) (hg:Nat.gcd n d≠1) (w:zA):
 qJ 55 #[St (45::(zD n++47::zD d))] w (.tuple #[.agg #[.int .i64 0,.int .i64 0],.bool false]):=by
 obtain⟨s,hs⟩:=zzX (⟨(45::(zD n++47::zD d)).toArray⟩:ByteArray);obtain⟨s1,s2,s3,s4,s5⟩:=zgu _ s hs;obtain⟨r,hr⟩:=zzX (⟨(47::zD d).toArray⟩:ByteArray);obtain⟨r1,r2,r3,r4⟩:=zco (47::zD d) (by simp) r hr;have r5:r.extract 1 r.size=⟨(zD d).toArray⟩:=by rw[hr];exact ze9 _ _
 have hc:=zcn n (47::zD d) (zf3 n _) hl (by simp;omega);have hc2:=zcn d [] (zd7 d) hl2 (by simp);rw[yH] at hc2;have hgc:=λW=>zj0 n d (zS ((zaf n 8 (by omega)).1 hl) (by omega)) (zS ((zaf d 8 (by omega)).1 hl2) (by omega)) W;have hg1:((Nat.gcd n d:Int)==1)=false:=by rw[beq_eq_false_iff_ne];omega
 have hg2:((Nat.gcd n d:Int) !=1)=true:=by rw[bne,hg1];rfl
 generalize Nat.gcd n d=g at*
 show zC _ _ #[.string ⟨(45::(zD n++47::zD d)).toArray⟩] _ _;obtain⟨u,hu⟩:=zzX (⟨(zD n++47::zD d).toArray⟩:ByteArray);obtain⟨v,hv⟩:=zzX (⟨(zD d).toArray⟩:ByteArray);have hus:u.size=(zD n++47::zD d).length:=by rw[hu];show(zD n++47::zD d).toArray.size=_;simp
 have hc':∀w,zC zF 110 #[.string u] w λe w'=>∃nd,e=.returned (.tuple #[I n,.string r,.bool true])/\w'=w.drewN nd:=by rw[hu,hr];exact hc
 have hc2':∀w,zC zF 110 #[.string v] w λe w'=>∃nd,e=.returned (.tuple #[I d,St [],.bool true])/\w'=w.drewN nd:=by rw[hv];exact hc2
 rw[<-hs];rw[<-hv] at r5;have r47:(((r[0]'r2).toNat:Int) !=47)=false:=by rw[r4 r2];rfl
 have r1':(1:Int)<=r.size:=by omega
 rw[<-hu] at s5;have h45:=s4 s2;have hsz1:(1:Int)<=s.size:=by omega
 have hlt:(u.size:Int)<s.size:=by omega
 have hn0:((n:Int)==0)=false:=by rw[beq_eq_false_iff_ne];omega
 have hnb:n<1000000000:=zS ((zaf n 8 (by omega)).1 hl) (by omega);have hd2:¬(d:Int)<2:=by omega
 have HC:=hid hc';have HC2:=hid hc2';have HG:=hid hgc;clear hc hc' hc2 hc2' hgc hs hr r3 r4 hu hus hl hl2 hg hv s3 s4;go_enter Tryz.func55,Tryz.ntmps55;go_wp21;refine(HC.out _).mono ?_;rintro e w1 ⟨nd,rfl,rfl⟩;go_wp21;refine(HC2.out _).mono ?_;rintro e w1 ⟨nd2,rfl,rfl⟩;go_wp21;refine(HG.out _).mono ?_;rintro e w1 ⟨nd3,rfl,rfl⟩;go_wp21;refine bodyPost_ret (v:=.tuple #[.agg #[.int .i64 0,.int .i64 0],.bool false]) (by simp[results,Tryz.results55,go_sem]) rfl ⟨rfl,?_⟩
 repeat(first|exact zM _ _|refine Below.alloc ?_ (by simp[World.drewN]) _|refine zao ?_ _|refine Below.setCell ?_ (by simp) _)
theorem z4e (s:ByteArray) (HC:Hid (qK 113 #[.string s] (.tuple #[.agg #[St [],St []],.bool false]))) (w:zA) (HW:Hid (Wd w)):
 qJ 57 #[.string s] w (.tuple #[.agg #[St [],St []],.int .i64 11]):=by
 go_enter Tryz.func57,Tryz.ntmps57;go_wp21;refine zzM (HC.out _ (HW.out.below ((zM _ w).alloc (zN _) _))) λw1 hb1=>?_;have hB1:qL w w1:=((zM _ w).alloc (zN _) _).trans (hb1.mono (by simp));have z1:w.heap.size<w1.heap.size:=by have:=hb1.size;simp at this;omega
 have R1:w1.heap[w.heap.size]? =some (.cells #[St [],St []] 98 (0,0)):=(hb1.block _ (by simp)).trans (zG w _);clear hb1;have R20:w1.cell? ⟨w.heap.size,0,none⟩=some (St []):=by simp[World.cell?,R1]
 have R21:w1.cell? ⟨w.heap.size,1,none⟩=some (St []):=by simp[World.cell?,R1]
 have F20:w1.frozen? ⟨w.heap.size,0,none⟩=false:=by simp[World.frozen?,R1]
 have F21:w1.frozen? ⟨w.heap.size,1,none⟩=false:=by simp[World.frozen?,R1]
 clear R1;go_wp21;refine bodyPost_ret (v:=.tuple #[.agg #[St [],St []],.int .i64 11]) (by simp[results,Tryz.results57,go_sem,R20,R21,z1]) rfl ⟨rfl,?_⟩
 repeat(first|exact hB1|exact zM _ _|refine Below.alloc ?_ (by simp[World.setCell]<;>omega) _|refine zao ?_ _|refine Below.setCell ?_ (by simp) _)
theorem zm5 (s sn sd own:ByteArray) (HC:Hid (qK 113 #[.string s] (.tuple #[.agg #[.string sn,.string sd],.bool true])))
 (HN:Hid (∀W:zA,qJ 55 #[.string s] W (.tuple #[.agg #[.int .i64 0,.int .i64 0],.bool false])))
 (TP:Hid (∀W:zA,zC zF 38 #[.string sn,.string ⟨#[45]⟩] W λe w'=>e=.returned (.string own)/\w'=W))
 (hz:(300:Int)<own.size\/(¬(300:Int)<own.size/\(300:Int)<sd.size)) (w:zA) (HW:Hid (Wd w)):
 qJ 57 #[.string s] w (.tuple #[.agg #[St [],St []],.int .i64 4]):=by
 rcases hz with s1|⟨s1,s2⟩
 all_goals
  go_enter Tryz.func57,Tryz.ntmps57;go_wp21;refine zzM (HC.out _ (HW.out.below ((zM _ w).alloc (zN _) _))) λw1 hb1=>?_;have hB1:qL w w1:=((zM _ w).alloc (zN _) _).trans (hb1.mono (by simp));have z1:w.heap.size<w1.heap.size:=by have:=hb1.size;simp at this;omega
  have R1:w1.heap[w.heap.size]? =some (.cells #[St [],St []] 98 (0,0)):=(hb1.block _ (by simp)).trans (zG w _);clear hb1;go_wp21;refine zzM (HN.out _) λw2 hb2=>?_;have z2:w1.heap.size<w2.heap.size:=by have:=hb2.size;simp at this;omega
  have hB2:qL w w2:=(hB1.alloc hB1.size _).trans (hb2.mono (by simp;omega));have R2:w2.heap[w.heap.size]? =some (.cells #[St [],St []] 98 (0,0)):=(hb2.block _ (by simp;omega)).trans ((Below.heap_alloc _ _ _ (by omega)).trans R1);have P2:w2.heap[w1.heap.size]? =some (.cells #[.string sn,.string sd] 98 (0,0)):=(hb2.block _ (by simp)).trans (zG w1 _);have P20:w2.cell? ⟨w1.heap.size,0,none⟩=some (.string sn):=by simp[World.cell?,P2]
  have P21:w2.cell? ⟨w1.heap.size,1,none⟩=some (.string sd):=by simp[World.cell?,P2]
  have R20:w2.cell? ⟨w.heap.size,0,none⟩=some (St []):=by simp[World.cell?,R2]
  have R21:w2.cell? ⟨w.heap.size,1,none⟩=some (St []):=by simp[World.cell?,R2]
  have F20:w2.frozen? ⟨w.heap.size,0,none⟩=false:=by simp[World.frozen?,R2]
  have F21:w2.frozen? ⟨w.heap.size,1,none⟩=false:=by simp[World.frozen?,R2]
  have z3:w.heap.size<w2.heap.size:=by omega
  clear R1 hB1 hb2;go_wp21;refine(TP.out _).mono ?_;rintro e w3 ⟨rfl,rfl⟩;go_wp21;refine bodyPost_ret (v:=.tuple #[.agg #[St [],St []],.int .i64 4]) (by simp[results,Tryz.results57,go_sem,R20,R21,z3]) rfl ⟨rfl,?_⟩
  repeat(first|exact hB2|exact zM _ _|refine Below.alloc ?_ (by simp[World.setCell]<;>omega) _|refine zao ?_ _|refine Below.setCell ?_ (by simp) _)
theorem z6e (s sn sd own g:ByteArray) (HC:Hid (qK 113 #[.string s] (.tuple #[.agg #[.string sn,.string sd],.bool true])))
 (HN:Hid (∀W:zA,qJ 55 #[.string s] W (.tuple #[.agg #[.int .i64 0,.int .i64 0],.bool false])))
 (TP:Hid (∀W:zA,zC zF 38 #[.string sn,.string ⟨#[45]⟩] W λe w'=>e=.returned (.string own)/\w'=W))
 (s1:¬(300:Int)<own.size) (s2:¬(300:Int)<sd.size) (s3:(sd.toList==[49])=false)
 (GC:Hid (qK 68 #[.string sn,.string sd] (.tuple #[.string g,.int .i64 0]))) (g1:(g.toList==[49])=false) (w:zA) (HW:Hid (Wd w)):
 qJ 57 #[.string s] w (.tuple #[.agg #[St [],St []],.int .i64 11]):=by
 go_enter Tryz.func57,Tryz.ntmps57;go_wp21;refine zzM (HC.out _ (HW.out.below ((zM _ w).alloc (zN _) _))) λw1 hb1=>?_;have hB1:qL w w1:=((zM _ w).alloc (zN _) _).trans (hb1.mono (by simp));have z1:w.heap.size<w1.heap.size:=by have:=hb1.size;simp at this;omega
 have R1:w1.heap[w.heap.size]? =some (.cells #[St [],St []] 98 (0,0)):=(hb1.block _ (by simp)).trans (zG w _);clear hb1;go_wp21;refine zzM (HN.out _) λw2 hb2=>?_;have z2:w1.heap.size<w2.heap.size:=by have:=hb2.size;simp at this;omega
 have hB2:qL w w2:=(hB1.alloc hB1.size _).trans (hb2.mono (by simp;omega));have R2:w2.heap[w.heap.size]? =some (.cells #[St [],St []] 98 (0,0)):=(hb2.block _ (by simp;omega)).trans ((Below.heap_alloc _ _ _ (by omega)).trans R1);have P2:w2.heap[w1.heap.size]? =some (.cells #[.string sn,.string sd] 98 (0,0)):=(hb2.block _ (by simp)).trans (zG w1 _);have P20:w2.cell? ⟨w1.heap.size,0,none⟩=some (.string sn):=by simp[World.cell?,P2]
 have P21:w2.cell? ⟨w1.heap.size,1,none⟩=some (.string sd):=by simp[World.cell?,P2]
 have R20:w2.cell? ⟨w.heap.size,0,none⟩=some (St []):=by simp[World.cell?,R2]
 have R21:w2.cell? ⟨w.heap.size,1,none⟩=some (St []):=by simp[World.cell?,R2]
 have F20:w2.frozen? ⟨w.heap.size,0,none⟩=false:=by simp[World.frozen?,R2]
 have F21:w2.frozen? ⟨w.heap.size,1,none⟩=false:=by simp[World.frozen?,R2]
 have z3:w.heap.size<w2.heap.size:=by omega
 clear R1 hB1 hb2;go_wp21;refine(TP.out _).mono ?_;rintro e w3 ⟨rfl,rfl⟩;go_wp21;refine zzM (GC.out _ (HW.out.below (hB2.alloc hB2.size _))) λw4 hb4=>?_;have hB4:qL w w4:=(hB2.alloc hB2.size _).trans (hb4.mono (by simp;omega));have R4:w4.heap[w.heap.size]? =some (.cells #[St [],St []] 98 (0,0)):=(hb4.block _ (by simp;omega)).trans ((Below.heap_alloc _ _ _ z3).trans R2);have R240:w4.cell? ⟨w.heap.size,0,none⟩=some (St []):=by simp[World.cell?,R4]
 have R241:w4.cell? ⟨w.heap.size,1,none⟩=some (St []):=by simp[World.cell?,R4]
 have F40:w4.frozen? ⟨w.heap.size,0,none⟩=false:=by simp[World.frozen?,R4]
 have F41:w4.frozen? ⟨w.heap.size,1,none⟩=false:=by simp[World.frozen?,R4]
 have z34:w.heap.size<w4.heap.size:=by have:=hb4.size;simp at this;omega
 clear P20 P21 R20 R21 F20 F21 P2 R2 z1 z2 hb4;go_wp21;refine bodyPost_ret (v:=.tuple #[.agg #[St [],St []],.int .i64 11]) (by simp[results,Tryz.results57,go_sem,R240,R241]) rfl ⟨rfl,?_⟩
 repeat(first|exact hB4|exact zM _ _|refine Below.alloc ?_ (by simp[World.setCell]<;>omega) _|refine zao ?_ _|refine Below.setCell ?_ (by simp) _)
theorem z0s {l:List UInt8} (hf:zn6 l) (h:¬okS l):hasS l/\Nat.gcd (val (upS l)) (val (dnS l))≠1/\bare l=zD (val (upS l))++47::zD (val (dnS l))/\2<=val (dnS l)/\(l.head? =some 45->0<val (upS l)):=by
 have hs:hasS l:=Classical.byContradiction λk=>h ⟨hf.1,hf.2.1,λm=>absurd m k⟩;obtain⟨d1,d2,d3⟩:=hf.2.2 hs;have hg:Nat.gcd (val (upS l)) (val (dnS l))≠1:=λk=>h ⟨hf.1,hf.2.1,λ_=>⟨d1,d2,d3,k⟩⟩;refine⟨hs,hg,?_,?_,λhm=>?_⟩
 ·have:=(zvh (b:=bare l) hs).1
  rw[zdd hf.1,zdd d1];exact this
 ·have e0:val (dnS l)≠0:=λk=>d2 (by rw[<-zdd d1,k];rw[zae (by omega)];rfl)
  have e1:val (dnS l)≠1:=λk=>d3 (by rw[<-zdd d1,k];exact(zta 1).2 rfl);omega
 ·refine yS λk=>hf.2.1 ⟨hm,?_⟩
  rw[<-zdd hf.1,k,zdj]
theorem z7y (l:List UInt8) (hl:l.length<=1000) (hf:zn6 l) (h:¬okS l) (w:zA):
 qJ 55 #[St l] w (.tuple #[.agg #[.int .i64 0,.int .i64 0],.bool false]):=by
 obtain⟨hs,hg,hb,hd,hn⟩:=z0s hf h;have hlen:(zD (val (upS l))).length+1+(zD (val (dnS l))).length<=1000:=by
  have h2:(bare l).length<=l.length:=by unfold bare;split<;>simp
  rw[hb] at h2;simp at h2;omega
 generalize val (upS l)=n at*
 generalize val (dnS l)=d at*
 rcases zgm l with⟨h1,h2⟩|⟨h1,h2⟩
 ·rw[h2,hb]
  have h0:=hn h1;by_cases c:(zD n).length<=8
  ·by_cases c2:(zD d).length<=8
   ·exact zpk n d h0 c c2 hd hg w
   ·exact zf6 true n (47::zD d) 0 0 false (λ_=>h0) (zf3 n _) (by omega) (by simp;omega) (.inr ⟨c,.inr ⟨d,rfl,.inr ⟨by omega,rfl,rfl,rfl⟩⟩⟩) w
  ·exact zf6 true n _ 0 0 false (λ_=>h0) (zf3 n _) (by omega) (by simp;omega) (.inl ⟨by omega,rfl,rfl,rfl⟩) w
 ·rw[h2,hb]
  by_cases c:(zD n).length<=8
  ·by_cases c2:(zD d).length<=8
   ·exact zyg n d c c2 hd hg w
   ·exact zf6 false n (47::zD d) 0 0 false (λk=>by cases k) (zf3 n _) (by omega) (by simp;omega) (.inr ⟨c,.inr ⟨d,rfl,.inr ⟨by omega,rfl,rfl,rfl⟩⟩⟩) w
  ·exact zf6 false n _ 0 0 false (λk=>by cases k) (zf3 n _) (by omega) (by simp;omega) (.inl ⟨by omega,rfl,rfl,rfl⟩) w
theorem yau {l:List UInt8} (hf:zn6 l):∃z:Int,nuS l=itoa z/\z.natAbs=val (upS l):=by
 rcases zgm l with⟨h1,h2⟩|⟨h1,h2⟩
 ·have e:nuS l=45::upS l:=by
   unfold upS
   conv=>lhs;rw[h2]
   exact z29 _
  have h0:0<val (upS l):=by
   refine yS λk=>hf.2.1 ⟨h1,?_⟩;rw[<-zdd hf.1,k,zdj]
  refine⟨-(val (upS l):Int),?_,by omega⟩;rw[e];rcases zbg (-(val (upS l):Int)) with⟨k,_⟩|⟨_,k⟩
  ·omega
  ·rw[k]
   congr 1;rw[show(-(val (upS l):Int)).natAbs=val (upS l) by omega,zdd hf.1]
 ·refine⟨(val (upS l):Int),?_,by omega⟩
  have e:nuS l=upS l:=by unfold upS nuS;rw[<-h2]
  rw[e,Str.zad,zdd hf.1]
theorem z9e (l:List UInt8) (hl:l.length<=1000) (h:¬okS l) (w:zA) (hw:Wd w):
 zC zF 57 #[St l] w λe w'=>∃r:Int,e=.returned (.tuple #[.agg #[St [],St []],.int .i64 r])/\r≠0/\Below w.heap.size w w':=by
 by_cases hf:zn6 l
 ·obtain⟨hs,hg,hb,hd,_⟩:=z0s hf h
  obtain⟨z,hz,hza⟩:=yau hf;have HC:Hid (qK 113 #[.string ⟨l.toArray⟩] (.tuple #[.agg #[.string ⟨(nuS l).toArray⟩,.string ⟨(dnS l).toArray⟩],.bool true])):=hid λW hW=>(z4x l hl W hW).mono λe w' ⟨h1,hb⟩=>by
   rcases h1 with⟨_,⟨_,e⟩|⟨k,_⟩⟩|⟨k,_⟩
   ·exact⟨e,hb⟩
   ·exact absurd hs k
   ·exact absurd hf k
  have HN:Hid (∀W:zA,qJ 55 #[.string ⟨l.toArray⟩] W (.tuple #[.agg #[.int .i64 0,.int .i64 0],.bool false])):=hid λW=>z7y l hl hf h W;have TP:Hid (∀W:zA,zC zF 38 #[.string ⟨(nuS l).toArray⟩,.string ⟨#[45]⟩] W λe w'=>e=.returned (.string ⟨(upS l).toArray⟩)/\w'=W):=hid λW=>by
   have:=Tryz.strings_TrimPrefix ⟨(nuS l).toArray⟩ ⟨#[45]⟩ W;rw[show(⟨(nuS l).toArray⟩:ByteArray).data.toList=nuS l from rfl,show(⟨#[45]⟩:ByteArray).data.toList=[45] from rfl,(z6b l).1] at this;exact this
  have sz:∀k:List UInt8,(⟨k.toArray⟩:ByteArray).size=k.length:=λk=>by show k.toArray.size=_;simp
  obtain⟨d1,d2,d3⟩:=hf.2.2 hs;show zC _ _ #[.string ⟨l.toArray⟩] _ _;by_cases c1:(upS l).length<=300
  ·by_cases c2:(dnS l).length<=300
   ·refine(z6e _ _ _ _ ⟨(itoa (Int.gcd z (val (dnS l):Int):Int)).toArray⟩ HC HN TP (by rw[sz];omega) (by rw[sz];omega) (by rw[zfo rfl];exact beq_eq_false_iff_ne.2 d3) (hid λW hW=>?_) ?_ w (hid hw)).mono ?_
    ·have:=ztw z (val (dnS l):Int) (by unfold digs;rw[hza,zdd hf.1];exact c1) (by unfold digs;rw[Int.natAbs_natCast,zdd d1];exact c2) W hW
     rw[<-hz,Str.zad (val (dnS l)),zdd d1] at this;exact this
    ·rw[zfo rfl,Str.zad]
     refine beq_eq_false_iff_ne.2 λk=>hg ?_;have:=(zta _).1 k;rw[<-this];unfold Int.gcd;rw[hza,Int.natAbs_natCast]
    ·rintro e w' ⟨rfl,hb⟩
     exact⟨11,rfl,by decide,hb⟩
   ·refine zzM (zm5 _ _ _ _ HC HN TP (.inr ⟨by rw[sz];omega,by rw[sz];omega⟩) w (hid hw)) λw' hb=>?_
    exact⟨4,rfl,by decide,hb⟩
  ·refine zzM (zm5 _ _ _ _ HC HN TP (.inl (by rw[sz];omega)) w (hid hw)) λw' hb=>?_
   exact⟨4,rfl,by decide,hb⟩
 ·refine(z4e ⟨l.toArray⟩ (hid λW hW=>(z4x l hl W hW).mono λe w' ⟨h1,hb⟩=>?_) w (hid hw)).mono ?_
  ·rcases h1 with⟨k,_⟩|⟨_,e⟩
   ·exact absurd k hf
   ·exact⟨e,hb⟩
  ·rintro e w' ⟨rfl,hb⟩
   exact⟨11,rfl,by decide,hb⟩
theorem z9f (s:ByteArray) (P:Int->Prop) (w:zA) (HC:Hid (zC zF 57 #[.string s] w λe w'=>∃a b r,e=.returned (.tuple #[.agg #[St a,St b],.int .i64 r])/\P r/\Below w.heap.size w w')):
 zC zF 36 #[.string s] w λe w'=>∃r:Int,e=.returned (.int .i64 r)/\P r/\Below w.heap.size w w':=by
 go_enter Tryz.func36,Tryz.ntmps36;go_wp21;refine HC.out.mono ?_;rintro e w1 ⟨a,b,r,rfl,hr,hb1⟩;have HR:=hid hr;clear hr HC;go_wp21;go_ret;exact⟨r,rfl,HR.out,hb1.alloc hb1.size _⟩
theorem z6h (l:List UInt8) (hl:l.length<=1000) (w:zA) (hw:Wd w):
 zC zF 36 #[St l] w λe w'=>∃r:Int,e=.returned (.int .i64 r)/\(r=0↔∃q,l=numS q/\okQ q)/\Below w.heap.size w w':=by
 refine z9f ⟨l.toArray⟩ (λr=>r=0↔∃q,l=numS q/\okQ q) w (hid ?_);by_cases h:okS l
 ·obtain⟨q,rfl⟩:=(zy2 l).1 h
  by_cases hq:okQ q
  ·refine zzM (zek q hq w hw) λw' hb=>?_
   exact⟨_,_,0,rfl,⟨λ_=>⟨q,rfl,hq⟩,λ_=>rfl⟩,hb⟩
  ·have h1:=za7 q.num
   have hu:(numS q).length=(itoa q.num).length+(if q.den=1 then 0 else 1+(zD q.den).length):=by
    unfold numS;by_cases c:q.den=1
    ·rw[if_pos c,if_pos c];simp
    ·rw[if_neg c,if_neg c];simp;omega
   have hd:digs q.num<=(itoa q.num).length:=by
    rcases zbg q.num with⟨_,e⟩|⟨_,e⟩
    ·rw[e];exact zN _
    ·rw[e];exact Nat.le_succ _
   have hdn:(zD q.den).length<=1000:=by
    by_cases c:q.den=1
    ·rw[c,zae (by omega)];simp
    ·rw[if_neg c] at hu;omega
   refine zzM (z64 q hq (by omega) (by omega) w hw) λw' hb=>?_;refine⟨_,_,4,rfl,⟨λk=>(by cases k),λ⟨q',e,hq'⟩=>?_⟩,hb⟩;rw[zh0 e] at hq;exact absurd hq' hq
 ·refine(z9e l hl h w hw).mono ?_
  rintro e w' ⟨r,rfl,hr,hb⟩;exact⟨_,_,r,rfl,⟨λk=>absurd k hr,λ⟨q,e,_⟩=>absurd ((zy2 l).2 ⟨q,e⟩) h⟩,hb⟩
def nrT (u:Rat×Rat):Rat×Nat:=(u.1*(((zn7 (u.2.num.natAbs*u.2.den)).1:Rat)/(u.2.den:Rat)),(zn7 (u.2.num.natAbs*u.2.den)).2)
def SdU (v:Value) (U:List (Rat×Rat)) (W:zA):Prop:=
 ∃p cap,v=.slice p U.length cap/\U.length<=cap/\∀i u,U[i]? =some u->∃b off,p=some ⟨b,off,none⟩/\b<W.heap.size/\W.cell? ⟨b,off+i*2,none⟩=some (St (numS u.1))/\W.cell? ⟨b,off+i*2+1,none⟩=some (St (numS u.2))
theorem ygy (c:Rat):nrT (c,1)=(c,1):=by
 unfold nrT;dsimp only;rw[show(1:Rat).num.natAbs*(1:Rat).den=1 from rfl,show zn7 1=(1,1) by decide+kernel,show(1:Rat).den=1 from rfl];congr 1;grind
theorem zpi {u:Rat×Rat} (hp:0<u.2) (h:sz u.2 90):sz (((zn7 (u.2.num.natAbs*u.2.den)).1:Rat)/(u.2.den:Rat)) 90:=by
 obtain⟨-,n0⟩:=z9b hp;have d0:=u.2.den_pos;obtain⟨e, -,h2, -⟩:=zf5 (Nat.mul_pos n0 d0);refine zvm (by omega) ?_ h.2;refine Nat.lt_of_not_le λhc=>?_;have h3:=Nat.mul_le_mul hc hc;rw[<-Nat.pow_add] at h3;have h4:u.2.num.natAbs*u.2.den<10^(90+90):=zcc h.1 h.2;have h5:=Nat.le_mul_of_pos_right ((zn7 (u.2.num.natAbs*u.2.den)).1*(zn7 (u.2.num.natAbs*u.2.den)).1) h2;rw[e] at h5;omega
theorem zqc (q:Rat) (h:0<=q.num):Lib.hasPrefix (numS q) [45]=false:=by
 obtain⟨c,r,e,hc,_⟩:=dec_head q.num.natAbs;have e1:itoa q.num=zD q.num.natAbs:=by
  rcases zbg q.num with⟨_,e⟩|⟨h',_⟩
  ·exact e
  ·omega
 have hc5:c≠45:=λh=>by subst h;simp at hc
 unfold numS;rw[e1,e];simp[Lib.hasPrefix,List.isPrefixOf,Ne.symm hc5]
theorem zxz (q:Rat) (hq:0<q) (W:zA):zC zF 39 #[St (numS q),.string ⟨#[45]⟩] W λe w'=>e=.returned (.bool false)/\w'=W:=by
 have hc:=Tryz.strings_HasPrefix ⟨(numS q).toArray⟩ ⟨#[45]⟩ W;have hp:Lib.hasPrefix (numS q) [45]=false:=zqc q (Rat.num_nonneg.2 (Rat.le_of_lt hq));rw[show(⟨(numS q).toArray⟩:ByteArray).data.toList=numS q from rfl,show(⟨#[45]⟩:ByteArray).data.toList=[45] from rfl,hp] at hc;exact hc
end
section
open Go.RowKit Go.Shelf Lib Str Limb Geo
attribute [local go_sem] Oper.semAt_some
theorem z3a (p q:Rat) (i j:Nat) (hi:0<i) (hj:0<j) (hij:i+j<300) (sp:sz p i) (sq:sz q j) (w:zA) (hw:Wd w):
 qJ 84 #[St (numS p),St (numS q)] w (.tuple #[St (numS (p+q)),.int .i64 0]):=by
 have C1:=hid λW hW=>zrs p q (zoo hi (by omega) sp) (zoo hj (by omega) sq) W hW;have C3:=hid λW hW=>yfo p q i j hi hj hij sp sq W hW;have HW:=hid hw;clear hw sp sq;generalize numS (p+q)=t at*
 generalize numS p=tp at*
 generalize numS q=tq at*
 go_enter Tryz.func84,Tryz.ntmps84;go_wp21;refine zzM (C1.out w HW.out) λw1 hb1=>?_;have HB1:=hid hb1;clear hb1;go_wp21;refine zzM (C3.out w1 (HW.out.below HB1.out)) λw3 hb3=>?_;have HB3:=qT HB1 hb3;clear hb3;go_wp21;go_ret2;exact⟨rfl,HB3.out⟩
theorem z6i (q:Rat) (k:Nat) (hok:okN q) (hk0:0<k) (hs:sz q k) (h8:k<=36) (w:zA) (hw:Wd w):
 qJ 140 #[St (numS q)] w (.bool false):=by
 have hc:=zp5 q hok w hw;have dd:=zok (k:=k) hk0 hs;obtain⟨s,hse⟩:=zzX (⟨(itoa q.num).toArray⟩:ByteArray);obtain⟨h0,h1,h2⟩:=zp6 q.num s hse;have hsz:s.size=(itoa q.num).length:=by rw[hse];show(itoa q.num).toArray.size=_;simp
 have hl:=zqo q.num;have hd2:¬(36:Int)<((⟨(zD q.den).toArray⟩:ByteArray).size:Int):=by
  have:(⟨(zD q.den).toArray⟩:ByteArray).size=(zD q.den).length:=by show(zD q.den).toArray.size=_;simp
  have:=dd.2;omega
 obtain⟨t,ht⟩:=zzX (⟨(zD q.den).toArray⟩:ByteArray);rw[<-ht] at hd2;rw[show St (itoa q.num)=.string s by rw[hse],show St (zD q.den)=.string t by rw[ht]] at hc;have HC:=hid hc;have hs0:(0:Int)<(s.size:Int):=by omega
 clear hc hw ht;generalize numS q=x at*
 by_cases hn:q.num<0
 ·have hb:(((s[0]'h0).toNat:Int)==45)=true:=by rw[h1,decide_eq_true hn]
  have he:=h2 hn;have hd1:¬(36:Int)<((⟨(zD q.num.natAbs).toArray⟩:ByteArray).size:Int):=by
   have:(⟨(zD q.num.natAbs).toArray⟩:ByteArray).size=(zD q.num.natAbs).length:=by show(zD q.num.natAbs).toArray.size=_;simp
   have:=dd.1;unfold digs at this;omega
  generalize (⟨(zD q.num.natAbs).toArray⟩:ByteArray)=u at*
  have hs1:(1:Int)<=(s.size:Int):=by omega
  clear h1 h2 hl hse hsz dd hn;go_enter Tryz.func140,Tryz.ntmps140;go_wp21;refine zzM HC.out λw1 hb1=>?_;have HB:=hid hb1;clear hb1;go_wp21;go_ret;exact⟨by show Ending.returned (.bool (decide ((36:Int)<(u.size:Int))||decide ((36:Int)<(t.size:Int))))=_;rw[decide_eq_false (by omega),decide_eq_false (by omega)];rfl,HB.out⟩
 ·have hb:(((s[0]'h0).toNat:Int)==45)=false:=by rw[h1,decide_eq_false hn]
  have hd1:¬(36:Int)<(s.size:Int):=by
   rw[if_neg hn] at hl;have:=dd.1;omega
  clear h1 h2 hl hse hsz dd hn;go_enter Tryz.func140,Tryz.ntmps140;go_wp21;refine zzM HC.out λw1 hb1=>?_;have HB:=hid hb1;clear hb1;go_wp21;go_ret;exact⟨by show Ending.returned (.bool (decide ((36:Int)<(s.size:Int))||decide ((36:Int)<(t.size:Int))))=_;rw[decide_eq_false (by omega),decide_eq_false (by omega)];rfl,HB.out⟩
theorem z11 (X Y Z:ByteArray) (w:zA)
 (L0:Hid (∀W:zA,qL w W->qJ 140 #[.string X] W (.bool false)))
 (L1:Hid (∀W:zA,qL w W->qJ 140 #[.string Y] W (.bool false)))
 (L2:Hid (∀W:zA,qL w W->qJ 140 #[.string Z] W (.bool false))):
 qJ 78 #[.agg #[.string X,.string Y,.string Z]] w (.bool false):=by
 obtain⟨v1,hv⟩:=zzX (w.alloc (.cells #[.string X,.string Y,.string Z] 25));obtain⟨b1,A1⟩:=zdn hv;obtain⟨d0,d1,d2⟩:=zbc A1;have B1:=hid b1;have P1:=hid A1;have HV:=hid hv.symm;rw[hv] at d0 d1 d2;clear hv b1 A1;go_enter Tryz.func78,Tryz.ntmps78;go_wp21;rw[HV.out];clear d0 d1 d2 HV;refine zzM (L0.out v1 B1.out) λw1 hb=>?_;have B2:=hid (B1.out.trans (hb.mono B1.out.size));have P2:=hid (zac hb _ _ _ _ P1.out);clear hb B1 P1;obtain⟨d0,d1,d2⟩:=zbc P2.out;go_wp21;clear d0 d1 d2;refine zzM (L1.out w1 B2.out) λw2 hb=>?_;have B3:=hid (B2.out.trans (hb.mono B2.out.size));have P3:=hid (zac hb _ _ _ _ P2.out);clear hb B2 P2;obtain⟨d0,d1,d2⟩:=zbc P3.out;go_wp21;clear d0 d1 d2;refine zzM (L2.out w2 B3.out) λw3 hb=>?_;have B4:=hid (B3.out.trans (hb.mono B3.out.size));clear hb B3 P3;go_wp21;go_ret;exact⟨rfl,B4.out⟩
theorem z0z (n:Int) (w:zA):zC zF 76 #[.int .i64 n] w λe w'=>e=.returned (.bool (decide (1<=n)&&decide (n<=1000)))/\w'=w:=by
 cases h:decide (1<=n)
 all_goals
  go_enter Tryz.func76,Tryz.ntmps76;go_wp21;go_ret;exact⟨by simp_all,rfl⟩
theorem z9h (X Y Z:ByteArray) (G0 G1 G2:Prop) (w:zA)
 (C0:Hid (∀W:zA,qL w W->zC zF 139 #[.string X] W (ErrP W G0)))
 (C1:Hid (∀W:zA,qL w W->zC zF 139 #[.string Y] W (ErrP W G1)))
 (C2:Hid (∀W:zA,qL w W->zC zF 139 #[.string Z] W (ErrP W G2))):
 zC zF 77 #[.agg #[.string X,.string Y,.string Z]] w (ErrP w (G0/\G1/\G2)):=by
 obtain⟨v1,hv⟩:=zzX (w.alloc (.cells #[.string X,.string Y,.string Z] 25));obtain⟨b1,A1⟩:=zdn hv;obtain⟨d0,d1,d2⟩:=zbc A1;have B1:=hid b1;have P1:=hid A1;have HV:=hid hv.symm;rw[hv] at d0 d1 d2;clear hv b1 A1;go_enter Tryz.func77,Tryz.ntmps77;go_wp21;rw[HV.out];clear d0 d1 d2 HV;refine(C0.out v1 B1.out).mono ?_;rintro e w1 ⟨r,rfl,hr,hb⟩;have B2:=hid (B1.out.trans (hb.mono B1.out.size));have P2:=hid (zac hb _ _ _ _ P1.out);have R1:=hid hr;clear hb B1 P1 hr;obtain⟨d0,d1,d2⟩:=zbc P2.out;cases h0:(r !=0)
 ·go_wp21
  clear d0 d1 d2;refine(C1.out w1 B2.out).mono ?_;rintro e w2 ⟨s,rfl,hr,hb⟩;have B3:=hid (B2.out.trans (hb.mono B2.out.size));have P3:=hid (zac hb _ _ _ _ P2.out);have R2:=hid hr;clear hb B2 P2 hr;obtain⟨d0,d1,d2⟩:=zbc P3.out;cases h1:(s !=0)
  ·go_wp21
   clear d0 d1 d2;refine(C2.out w2 B3.out).mono ?_;rintro e w3 ⟨t,rfl,hr,hb⟩;have B4:=hid (B3.out.trans (hb.mono B3.out.size));have R3:=hid hr;clear hb B3 P3 hr;go_wp21;go_ret;exact⟨t,rfl,λh=>⟨R1.out (by simpa using h0),R2.out (by simpa using h1),R3.out h⟩,B4.out⟩
  ·go_wp21
   go_ret;exact⟨s,rfl,λh=>(by rw[h] at h1;cases h1),B3.out⟩
 ·go_wp21
  go_ret;exact⟨r,rfl,λh=>(by rw[h] at h0;cases h0),B2.out⟩
theorem zp9 (X Y Z X' Y' Z':ByteArray) (w:zA)
 (C0:Hid (∀W:zA,qL w W->qJ 77 #[.agg #[.string X,.string Y,.string Z]] W (.int .i64 0)))
 (C1:Hid (∀W:zA,qL w W->qJ 77 #[.agg #[.string X',.string Y',.string Z']] W (.int .i64 0))):
 qJ 79 #[.agg #[.string X,.string Y,.string Z],.agg #[.string X',.string Y',.string Z']] w (.int .i64 0):=by
 obtain⟨v1,hv⟩:=zzX ((w.alloc (.cells #[.string X,.string Y,.string Z] 25)).alloc (.cells #[.string X',.string Y',.string Z'] 25));obtain⟨b1,p1,p2, -⟩:=zcz hv;obtain⟨d0,d1,d2⟩:=zbc p1;have B1:=hid b1;have P1:=hid p2;have HV:=hid hv.symm;rw[hv] at d0 d1 d2;clear hv b1 p1 p2;go_enter Tryz.func79,Tryz.ntmps79;go_wp21;rw[HV.out];clear d0 d1 d2 HV;refine zzM (C0.out v1 B1.out) λw1 hb=>?_;have B2:=hid (B1.out.trans (hb.mono B1.out.size));obtain⟨d0,d1,d2⟩:=zbc (zac hb _ _ _ _ P1.out);clear hb B1 P1;go_wp21;clear d0 d1 d2;refine zzM (C1.out w1 B2.out) λw2 hb=>?_;have B3:=hid (B2.out.trans (hb.mono B2.out.size));clear hb B2;go_wp21;go_ret;exact⟨rfl,B3.out⟩
theorem z3h (w:zA):zC zF 82 #[.int .i64 0,.int .i64 0,.int .i64 0] w λe w'=>e=.returned (.int .i64 0)/\w'=w:=by
 go_enter Tryz.func82,Tryz.ntmps82;go_wp21;go_ret;exact⟨rfl,rfl⟩
theorem yav (X Y Z:ByteArray) (w:zA):qJ 81 #[.string X,.string Y,.string Z,.int .i64 0] w (.tuple #[.agg #[.string X,.string Y,.string Z],.int .i64 0]):=by
 obtain⟨v1,hv⟩:=zzX (w.alloc (.cells #[.string ⟨#[]⟩,.string ⟨#[]⟩,.string ⟨#[]⟩] 25));obtain⟨b1,A1⟩:=zdn hv;obtain⟨e0,e1,e2,z0,z1,z2⟩:=zah A1;have B1:=hid b1;have HV:=hid hv;rw[hv] at e0 e1 e2 z0 z1 z2;clear hv b1 A1;go_enter Tryz.func81,Tryz.ntmps81;go_wp21;have hB:=B1.out;rw[HV.out] at hB;refine bodyPost_ret (v:=.tuple #[.agg #[.string X,.string Y,.string Z],.int .i64 0]) (by simp[results,Tryz.results81,go_sem]) rfl ⟨rfl,?_⟩
 first
  |exact(zM _ w).alloc (zN _) _
  |(repeat(first|exact hB|refine Below.setCell ?_ (by simp) _))
theorem z6k (X Y Z X' Y' Z' U V T:ByteArray) (w:zA)
 (BO:Hid (∀W:zA,qL w W->qJ 79 #[.agg #[.string X,.string Y,.string Z],.agg #[.string X',.string Y',.string Z']] W (.int .i64 0)))
 (C0:Hid (∀W:zA,qL w W->qJ 80 #[.string X,.string X'] W (.tuple #[.string U,.int .i64 0])))
 (C1:Hid (∀W:zA,qL w W->qJ 80 #[.string Y,.string Y'] W (.tuple #[.string V,.int .i64 0])))
 (C2:Hid (∀W:zA,qL w W->qJ 80 #[.string Z,.string Z'] W (.tuple #[.string T,.int .i64 0]))):
 qJ 43 #[.agg #[.string X,.string Y,.string Z],.agg #[.string X',.string Y',.string Z']] w (.tuple #[.agg #[.string U,.string V,.string T],.int .i64 0]):=by
 obtain⟨v1,hv⟩:=zzX (((w.alloc (.cells #[.string X,.string Y,.string Z] 25)).alloc (.cells #[.string X',.string Y',.string Z'] 25)).alloc (.cells #[.string ⟨#[]⟩,.string ⟨#[]⟩,.string ⟨#[]⟩] 25));obtain⟨b1,p1,p2,p3, -⟩:=zjg hv;obtain⟨d0,d1,d2⟩:=zbc p1;obtain⟨d3,d4,d5⟩:=zbc p2;have B1:=hid b1;have P1:=hid p1;have P2:=hid p2;have P3:=hid p3;have HV:=hid hv.symm;rw[hv] at d0 d1 d2 d3 d4 d5;clear hv b1 p1 p2 p3;go_enter Tryz.func43,Tryz.ntmps43;go_wp21;rw[HV.out];clear d0 d1 d2 d3 d4 d5 HV;refine zzM (BO.out v1 B1.out) λr0 hb=>?_;have B2:=hid (B1.out.trans (hb.mono B1.out.size));have P1:=hid (zac hb _ _ _ _ P1.out);have P2:=hid (zac hb _ _ _ _ P2.out);have P3:=hid (zac hb _ _ _ _ P3.out);clear hb B1;obtain⟨d0,d1,d2⟩:=zbc P1.out;obtain⟨d3,d4,d5⟩:=zbc P2.out;go_wp21;clear d0 d1 d2 d3 d4 d5;refine zzM (C0.out r0 B2.out) λr1 hb=>?_;have B3:=hid (B2.out.trans (hb.mono B2.out.size));have P1:=hid (zac hb _ _ _ _ P1.out);have P2:=hid (zac hb _ _ _ _ P2.out);have P3:=hid (zac hb _ _ _ _ P3.out);clear hb B2;obtain⟨d0,d1,d2⟩:=zbc P1.out;obtain⟨d3,d4,d5⟩:=zbc P2.out;go_wp21;clear d0 d1 d2 d3 d4 d5;refine zzM (C1.out r1 B3.out) λr2 hb=>?_;have B4:=hid (B3.out.trans (hb.mono B3.out.size));have P1:=hid (zac hb _ _ _ _ P1.out);have P2:=hid (zac hb _ _ _ _ P2.out);have P3:=hid (zac hb _ _ _ _ P3.out);clear hb B3;obtain⟨d0,d1,d2⟩:=zbc P1.out;obtain⟨d3,d4,d5⟩:=zbc P2.out;go_wp21;clear d0 d1 d2 d3 d4 d5;refine zzM (C2.out r2 B4.out) λr3 hb=>?_
 have B5:=hid (B4.out.trans (hb.mono B4.out.size));have P3:=hid (zac hb _ _ _ _ P3.out);clear hb B4;go_wp21;refine zzM (z3h r3) λr4 hw=>?_;have hw':=hw.symm;subst hw';clear hw;go_wp21;refine zzM (yav U V T r3) λr5 hb=>?_;have B6:=hid (B5.out.trans (hb.mono B5.out.size));obtain⟨e0,e1,e2,z0,z1,z2⟩:=zah (zac hb _ _ _ _ P3.out);clear hb B5;go_wp21;have hB:=B6.out;refine bodyPost_ret (v:=.tuple #[.agg #[.string U,.string V,.string T],.int .i64 0]) (by simp[results,Tryz.results43,go_sem,e0,e1,e2]) rfl ⟨rfl,?_⟩
 repeat(first|exact hB|refine Below.setCell ?_ (by simp<;>omega) _)
theorem z6m (X Y Z A B C S Q:ByteArray) (w:zA)
 (BO:Hid (∀W:zA,qL w W->qJ 79 #[.agg #[.string X,.string Y,.string Z],.agg #[.string X,.string Y,.string Z]] W (.int .i64 0)))
 (C0:Hid (∀W:zA,qL w W->qJ 83 #[.string X,.string X] W (.tuple #[.string A,.int .i64 0])))
 (C1:Hid (∀W:zA,qL w W->qJ 83 #[.string Y,.string Y] W (.tuple #[.string B,.int .i64 0])))
 (C2:Hid (∀W:zA,qL w W->qJ 83 #[.string Z,.string Z] W (.tuple #[.string C,.int .i64 0])))
 (A0:Hid (∀W:zA,qL w W->qJ 84 #[.string A,.string B] W (.tuple #[.string S,.int .i64 0])))
 (A1:Hid (∀W:zA,qL w W->qJ 84 #[.string S,.string C] W (.tuple #[.string Q,.int .i64 0]))):
 qJ 44 #[.agg #[.string X,.string Y,.string Z],.agg #[.string X,.string Y,.string Z]] w (.tuple #[.string Q,.int .i64 0]):=by
 obtain⟨v1,hv⟩:=zzX ((w.alloc (.cells #[.string X,.string Y,.string Z] 25)).alloc (.cells #[.string X,.string Y,.string Z] 25));obtain⟨b1,p1,p2, -⟩:=zcz hv;obtain⟨d0,d1,d2⟩:=zbc p1;obtain⟨d3,d4,d5⟩:=zbc p2;have B1:=hid b1;have P1:=hid p1;have P2:=hid p2;have P3:=hid p2;have HV:=hid hv.symm;rw[hv] at d0 d1 d2 d3 d4 d5;clear hv b1 p1 p2;go_enter Tryz.func44,Tryz.ntmps44;go_wp21;rw[HV.out];clear d0 d1 d2 d3 d4 d5 HV;refine zzM (BO.out v1 B1.out) λr0 hb=>?_;have B2:=hid (B1.out.trans (hb.mono B1.out.size));have P1:=hid (zac hb _ _ _ _ P1.out);have P2:=hid (zac hb _ _ _ _ P2.out);have P3:=hid (zac hb _ _ _ _ P3.out);clear hb B1;obtain⟨d0,d1,d2⟩:=zbc P1.out;obtain⟨d3,d4,d5⟩:=zbc P2.out;go_wp21;clear d0 d1 d2 d3 d4 d5;refine zzM (C0.out r0 B2.out) λr1 hb=>?_;have B3:=hid (B2.out.trans (hb.mono B2.out.size));have P1:=hid (zac hb _ _ _ _ P1.out);have P2:=hid (zac hb _ _ _ _ P2.out);have P3:=hid (zac hb _ _ _ _ P3.out);clear hb B2;obtain⟨d0,d1,d2⟩:=zbc P1.out;obtain⟨d3,d4,d5⟩:=zbc P2.out;go_wp21;clear d0 d1 d2 d3 d4 d5;refine zzM (C1.out r1 B3.out) λr2 hb=>?_;have B4:=hid (B3.out.trans (hb.mono B3.out.size));have P1:=hid (zac hb _ _ _ _ P1.out);have P2:=hid (zac hb _ _ _ _ P2.out);have P3:=hid (zac hb _ _ _ _ P3.out);clear hb B3;obtain⟨d0,d1,d2⟩:=zbc P1.out;obtain⟨d3,d4,d5⟩:=zbc P2.out;go_wp21;clear d0 d1 d2 d3 d4 d5;refine zzM (C2.out r2 B4.out) λr3 hb=>?_;have B5:=hid (B4.out.trans (hb.mono B4.out.size));clear hb B4 P3;go_wp21;refine zzM (z3h r3) λr4 hw=>?_
 have hw':=hw.symm;subst hw';clear hw;go_wp21;refine zzM (A0.out r3 B5.out) λr5 hb=>?_;have B6:=hid (B5.out.trans (hb.mono B5.out.size));clear hb B5;go_wp21;refine zzM (A1.out r5 B6.out) λr6 hb=>?_;have B7:=hid (B6.out.trans (hb.mono B6.out.size));clear hb B6;go_wp21;go_ret2;exact⟨rfl,B7.out⟩
def MG (m:Mbr) (G1 G2:Prop):Prop:=(1<=m.k/\m.k<=12)/\0<=m.f/\ -1<=m.o/\(1<=m.wd/\m.wd<=1000)/\(1<=m.dp/\m.dp<=1000)/\G1/\G2/\m.eqB=false
theorem z12 (m:Mbr) (G1 G2:Prop) (w:zA)
 (V1:Hid (∀W:zA,qL w W->zC zF 77 #[.agg #[.string m.a0,.string m.a1,.string m.a2]] W (ErrP W G1)))
 (V2:Hid (∀W:zA,qL w W->zC zF 77 #[.agg #[.string m.b0,.string m.b1,.string m.b2]] W (ErrP W G2)))
 (L1:Hid (G1->(∀W:zA,qL w W->qJ 78 #[.agg #[.string m.a0,.string m.a1,.string m.a2]] W (.bool false))))
 (L2:Hid (G2->(∀W:zA,qL w W->qJ 78 #[.agg #[.string m.b0,.string m.b1,.string m.b2]] W (.bool false)))):
 zC zF 42 #[m.v] w (ErrP w (MG m G1 G2)):=by
 obtain⟨v1,hv⟩:=zzX (w.alloc (.cells #[.int .i64 m.k,.int .i64 m.f,.int .i64 m.o,.string m.a0,.string m.a1,.string m.a2,.string m.b0,.string m.b1,.string m.b2,.int .i64 m.wd,.int .i64 m.dp] 27));obtain⟨b1,A1⟩:=zdn hv;have S0:=hid (MbS.mk A1:MbS m w.heap.size v1);obtain⟨k0,k1,k2,k3,k4,k5,k6,k7,k8,k9,k10⟩:=S0.out.cells;have B0:=hid b1;have HV:=hid hv.symm;have Z1:=hid (z0z m.wd);have Z2:=hid (z0z m.dp);rw[hv] at k0 k1 k2 k3 k4 k5 k6 k7 k8 k9 k10;clear hv b1 A1;unfold Mbr.v;cases h1:decide (m.k<1)
 case true=>
  go_enter Tryz.func42,Tryz.ntmps42;go_wp21;rw[HV.out];go_ret;exact⟨8,rfl,λh=>(by cases h),B0.out⟩
 cases h2:decide (12<m.k)
 case true=>
  go_enter Tryz.func42,Tryz.ntmps42;go_wp21;rw[HV.out];go_ret;exact⟨8,rfl,λh=>(by cases h),B0.out⟩
 cases h3:decide (m.f<0)
 case true=>
  go_enter Tryz.func42,Tryz.ntmps42;go_wp21;rw[HV.out];go_ret;exact⟨19,rfl,λh=>(by cases h),B0.out⟩
 cases h4:decide (m.o< -1)
 case true=>
  go_enter Tryz.func42,Tryz.ntmps42;go_wp21;rw[HV.out];go_ret;exact⟨19,rfl,λh=>(by cases h),B0.out⟩
 have HK:=hid (show(1<=m.k/\m.k<=12)/\0<=m.f/\ -1<=m.o by have:=of_decide_eq_false h1;have:=of_decide_eq_false h2;have:=of_decide_eq_false h3;have:=of_decide_eq_false h4;omega);go_enter Tryz.func42,Tryz.ntmps42;go_wp21;rw[HV.out];clear k0 k1 k2 k3 k4 k5 k6 k7 k8 k9 k10 h1 h2 h3 h4 HV;refine zzM (Z1.out v1) λw1 hw=>?_;have hw':=hw.symm;subst hw';clear hw;obtain⟨k0,k1,k2,k3,k4,k5,k6,k7,k8,k9,k10⟩:=S0.out.cells;cases h1:(decide (1<=m.wd)&&decide (m.wd<=1000))
 ·go_wp21
  go_ret;exact⟨2,rfl,λh=>(by cases h),B0.out⟩
 have HW:=hid (show 1<=m.wd/\m.wd<=1000 by simpa using h1);go_wp21;clear k0 k1 k2 k3 k4 k5 k6 k7 k8 k9 k10 h1;refine zzM (Z2.out v1) λw1 hw=>?_;have hw':=hw.symm;subst hw';clear hw;obtain⟨k0,k1,k2,k3,k4,k5,k6,k7,k8,k9,k10⟩:=S0.out.cells;cases h1:(decide (1<=m.dp)&&decide (m.dp<=1000))
 ·go_wp21
  go_ret;exact⟨2,rfl,λh=>(by cases h),B0.out⟩
 have HD:=hid (show 1<=m.dp/\m.dp<=1000 by simpa using h1);go_wp21;clear k0 k1 k2 k3 k4 k5 k6 k7 k8 k9 k10 h1 Z1 Z2;refine(V1.out v1 B0.out).mono ?_;rintro e w2 ⟨r,rfl,hr,hb⟩;have B1:=hid (B0.out.trans (hb.mono B0.out.size));have S1:=hid (S0.out.below hb);have R1:=hid hr;clear hb hr B0 S0 V1;cases h1:(r !=0)
 case true=>
  go_wp21;go_ret;exact⟨r,rfl,λh=>(by rw[h] at h1;cases h1),B1.out⟩
 have X1:=hid (R1.out (by simpa using h1));obtain⟨k0,k1,k2,k3,k4,k5,k6,k7,k8,k9,k10⟩:=S1.out.cells;go_wp21;clear k0 k1 k2 k3 k4 k5 k6 k7 k8 k9 k10 h1 R1;refine(V2.out w2 B1.out).mono ?_;rintro e w3 ⟨s,rfl,hr,hb⟩;have B2:=hid (B1.out.trans (hb.mono B1.out.size));have S2:=hid (S1.out.below hb);have R1:=hid hr;clear hb hr B1 S1 V2;cases h1:(s !=0)
 case true=>
  go_wp21;go_ret;exact⟨s,rfl,λh=>(by rw[h] at h1;cases h1),B2.out⟩
 have X2:=hid (R1.out (by simpa using h1));obtain⟨k0,k1,k2,k3,k4,k5,k6,k7,k8,k9,k10⟩:=S2.out.cells;go_wp21;clear k0 k1 k2 k3 k4 k5 k6 k7 k8 k9 k10 h1 R1;refine zzM (L1.out X1.out w3 B2.out) λw4 hb=>?_;have B3:=hid (B2.out.trans (hb.mono B2.out.size));have S3:=hid (S2.out.below hb);clear hb B2 S2 L1;obtain⟨k0,k1,k2,k3,k4,k5,k6,k7,k8,k9,k10⟩:=S3.out.cells;go_wp21;clear k0 k1 k2 k3 k4 k5 k6 k7 k8 k9 k10;refine zzM (L2.out X2.out w4 B3.out) λw5 hb=>?_;have B4:=hid (B3.out.trans (hb.mono B3.out.size));have S4:=hid (S3.out.below hb);clear hb B3 S3 L2;obtain⟨k0,k1,k2,k3,k4,k5,k6,k7,k8,k9,k10⟩:=S4.out.cells;cases hE:m.eqB
 ·have hE':=hE
  unfold Mbr.eqB at hE';go_wp21
  all_goals first
   |(exfalso;(rename_i h1 h2 h3);rw[h1,h2,h3] at hE';simp at hE';done)
   |(go_ret;exact⟨0,rfl,λ_=>⟨HK.out.1,HK.out.2.1,HK.out.2.2,HW.out,HD.out,X1.out,X2.out,hE⟩,B4.out⟩)
 ·unfold Mbr.eqB at hE
  simp only[Bool.and_eq_true] at hE;obtain⟨g0,g1,g2⟩:=hE;go_wp21;go_ret;exact⟨12,rfl,λh=>(by cases h),B4.out⟩
theorem zqa (m:Mbr) (G:Prop) (X Y Z:ByteArray) (w:zA)
 (CK:Hid (∀W:zA,qL w W->zC zF 42 #[m.v] W (ErrP W G)))
 (SB:Hid (G->(∀W:zA,qL w W->qJ 43 #[.agg #[.string m.b0,.string m.b1,.string m.b2],.agg #[.string m.a0,.string m.a1,.string m.a2]] W (.tuple #[.agg #[.string X,.string Y,.string Z],.int .i64 0])))):
 zC zF 21 #[m.v] w (AlgO w G X Y Z):=by
 obtain⟨v0,hv0⟩:=zzX (w.alloc (.cells #[.int .i64 m.k,.int .i64 m.f,.int .i64 m.o,.string m.a0,.string m.a1,.string m.a2,.string m.b0,.string m.b1,.string m.b2,.int .i64 m.wd,.int .i64 m.dp] 27));obtain⟨b0,A0⟩:=zdn hv0;obtain⟨v1,hv⟩:=zzX (v0.alloc (.cells #[.string ⟨#[]⟩,.string ⟨#[]⟩,.string ⟨#[]⟩] 25));obtain⟨b1,A1⟩:=zdn hv;have s0:v0.heap.size=w.heap.size+1:=by rw[hv0];simp
 rw[s0] at A1;have S0:=hid (MbS.mk (zac b1 _ _ _ _ A0):MbS m w.heap.size v1);have R0:=hid A1;have B0:=hid (b0.trans (b1.mono b0.size));obtain⟨k0,k1,k2,k3,k4,k5,k6,k7,k8,k9,k10⟩:=S0.out.cells;rw[hv0] at hv;have HV:=hid hv.symm;rw[hv] at k0 k1 k2 k3 k4 k5 k6 k7 k8 k9 k10;clear hv hv0 b0 b1 A0 A1 s0;unfold Mbr.v at*
 go_enter Tryz.func21,Tryz.ntmps21;go_wp21;rw[HV.out];clear k0 k1 k2 k3 k4 k5 k6 k7 k8 k9 k10 HV;refine(CK.out v1 B0.out).mono ?_;rintro e w1 ⟨r,rfl,hr,hb⟩;have B1:=hid (B0.out.trans (hb.mono B0.out.size));have S1:=hid (S0.out.below hb);have R1:=hid (zac hb _ _ _ _ R0.out);have H1:=hid hr;clear hb hr B0 S0 R0 CK;cases h1:(r !=0)
 ·have X1:=hid (H1.out (by simpa using h1))
  obtain⟨k0,k1,k2,k3,k4,k5,k6,k7,k8,k9,k10⟩:=S1.out.cells;go_wp21;clear k0 k1 k2 k3 k4 k5 k6 k7 k8 k9 k10 h1 H1;refine zzM (SB.out X1.out w1 B1.out) λw2 hb=>?_;have B2:=hid (B1.out.trans (hb.mono B1.out.size));obtain⟨e0,e1,e2,z0,z1,z2⟩:=zah (zac hb _ _ _ _ R1.out);clear hb B1 S1 R1;go_wp21;refine bodyPost_ret (v:=.tuple #[.agg #[.string X,.string Y,.string Z],.int .i64 0]) (by simp[results,Tryz.results21,go_sem,e0,e1,e2]) rfl ⟨X,Y,Z,0,rfl,?_,λ_=>⟨X1.out,rfl,rfl,rfl⟩⟩;have hB:=B2.out
  repeat(first|exact hB|refine Below.setCell ?_ (by simp<;>omega) _)
 ·obtain⟨e0,e1,e2,z0,z1,z2⟩:=zah R1.out
  go_wp21;refine bodyPost_ret (v:=.tuple #[.agg #[.string ⟨#[]⟩,.string ⟨#[]⟩,.string ⟨#[]⟩],.int .i64 1]) (by simp[results,Tryz.results21,go_sem,e0,e1,e2]) rfl ⟨_,_,_,1,rfl,?_,λh=>(by cases h)⟩;have hB:=B1.out
  repeat(first|exact hB|refine Below.setCell ?_ (by simp<;>omega) _)
def RunO (w:zA) (P:Option Addr->Nat->Nat->zA->Prop) (e:Ending) (w':zA):Prop:=∃p n c r,e=.returned (.tuple #[.slice p n c,.int .i64 r])/\Below w.heap.size w w'/\(r=0->P p n c w')
theorem z4f (X Y Z:ByteArray) (w:zA)
 (DO:Hid (∀W:zA,qL w W->qJ 44 #[.agg #[.string X,.string Y,.string Z],.agg #[.string X,.string Y,.string Z]] W (.tuple #[.string ⟨#[48]⟩,.int .i64 0]))):
 qJ 22 #[.agg #[.string X,.string Y,.string Z]] w (.tuple #[.slice none 0 0,.int .i64 0]):=by
 obtain⟨v1,hv⟩:=zzX (w.alloc (.cells #[.string X,.string Y,.string Z] 25));obtain⟨b1,A1⟩:=zdn hv;obtain⟨d0,d1,d2⟩:=zbc A1;have B1:=hid b1;have HV:=hid hv.symm;rw[hv] at d0 d1 d2;clear hv b1 A1;go_enter Tryz.func22,Tryz.ntmps22;go_wp21;rw[HV.out];clear d0 d1 d2 HV;refine zzM (DO.out v1 B1.out) λw1 hb=>?_;have B2:=hid (B1.out.trans (hb.mono B1.out.size));clear hb B1;go_wp21;go_ret2;exact⟨rfl,B2.out⟩
theorem z6n (X Y Z Q F R:ByteArray) (hQ:(Q.toList==[48])=false) (G:Prop) (w:zA)
 (DO:Hid (∀W:zA,qL w W->qJ 44 #[.agg #[.string X,.string Y,.string Z],.agg #[.string X,.string Y,.string Z]] W (.tuple #[.string Q,.int .i64 0])))
 (NO:Hid (∀W:zA,qL w W->qJ 45 #[.string Q] W (.tuple #[.string F,.string R,.int .i64 0])))
 (SC:Hid (∀(W:zA) (b:Nat),qL w W->W.cell? ⟨b,0,none⟩=some (.string F)->W.cell? ⟨b,1,none⟩=some (.string R)->zC zF 46 #[.slice (some ⟨b,0,none⟩) 1 1] W (ErrP W G))):
 zC zF 22 #[.agg #[.string X,.string Y,.string Z]] w (RunO w λp n c W=>G/\∃b,p=some ⟨b,0,none⟩/\n=1/\1<=c/\W.cell? ⟨b,0,none⟩=some (.string F)/\W.cell? ⟨b,1,none⟩=some (.string R)):=by
 obtain⟨v1,hv⟩:=zzX (w.alloc (.cells #[.string X,.string Y,.string Z] 25));obtain⟨b1,A1⟩:=zdn hv;obtain⟨d0,d1,d2⟩:=zbc A1;have B1:=hid b1;have HV:=hid hv.symm;rw[hv] at d0 d1 d2;clear hv b1 A1;go_enter Tryz.func22,Tryz.ntmps22;go_wp21;rw[HV.out];clear d0 d1 d2 HV;refine zzM (DO.out v1 B1.out) λw1 hb=>?_;have B2:=hid (B1.out.trans (hb.mono B1.out.size));clear hb B1;go_wp21;refine zzM (NO.out w1 B2.out) λw3 hb=>?_;have B3:=hid (B2.out.trans (hb.mono B2.out.size));clear hb B2 NO;obtain⟨v3,hv⟩:=zzX (w3.alloc (.cells #[.string F,.string R] 49));obtain⟨a3,A3⟩:=zdn hv;have t0:v3.cell? ⟨w3.heap.size,0,none⟩=some (.string F):=by rw[zJ A3];rfl
 have t1:v3.cell? ⟨w3.heap.size,1,none⟩=some (.string R):=by rw[zJ A3];rfl
 have HV:=hid hv.symm;have E3:=B3.out.trans (a3.mono B3.out.size);have B4:=hid E3;have HS:=hid (SC.out v3 w3.heap.size E3 t0 t1);have T0:=hid t0;have T1:=hid t1;clear hv a3 A3 t0 t1 E3 B3 SC;go_wp21;rw[HV.out];clear HV;refine HS.out.mono ?_;rintro e w4 ⟨r,rfl,hr,hb⟩;have B5:=hid (B4.out.trans (hb.mono B4.out.size));have U0:=hid (zai hb T0.out);have U1:=hid (zai hb T1.out);have R1:=hid hr;clear hb hr B4 HS T0 T1;cases h1:(r !=0)
 ·have X1:=hid (R1.out (by simpa using h1))
  go_wp21;go_ret2;exact⟨_,_,_,0,rfl,B5.out,λ_=>⟨X1.out,_,rfl,rfl,zN _,U0.out,U1.out⟩⟩
 ·go_wp21
  go_ret2;exact⟨_,_,_,4,rfl,B5.out,λh=>(by cases h)⟩
theorem zrl (m:Mbr) (G:Prop) (X Y Z:ByteArray) (P:Option Addr->Nat->Nat->zA->Prop) (w:zA)
 (DI:Hid (∀W:zA,qL w W->zC zF 21 #[m.v] W (AlgO W G X Y Z)))
 (LE:Hid (G->(∀W:zA,qL w W->zC zF 22 #[.agg #[.string X,.string Y,.string ⟨#[48]⟩]] W (RunO W P)))):
 zC zF 8 #[m.v] w (RunO w λp n c W=>G/\P p n c W):=by
 obtain⟨v1,hv⟩:=zzX (w.alloc (.cells #[.int .i64 m.k,.int .i64 m.f,.int .i64 m.o,.string m.a0,.string m.a1,.string m.a2,.string m.b0,.string m.b1,.string m.b2,.int .i64 m.wd,.int .i64 m.dp] 27));obtain⟨b1,A1⟩:=zdn hv;obtain⟨k0,k1,k2,k3,k4,k5,k6,k7,k8,k9,k10⟩:=(MbS.mk A1:MbS m w.heap.size v1).cells;have B0:=hid b1;have HV:=hid hv.symm;rw[hv] at k0 k1 k2 k3 k4 k5 k6 k7 k8 k9 k10;clear hv b1 A1;unfold Mbr.v at*
 go_enter Tryz.func8,Tryz.ntmps8;go_wp21;rw[HV.out];clear k0 k1 k2 k3 k4 k5 k6 k7 k8 k9 k10 HV;refine(DI.out v1 B0.out).mono ?_;rintro e w1 ⟨t0,t1,t2,f,rfl,hb,hf⟩;obtain⟨v2,hv⟩:=zzX (w1.alloc (.cells #[.string t0,.string t1,.string t2] 25));obtain⟨b2,A2⟩:=zdn hv;obtain⟨d0,d1,d2⟩:=zbc A2;have B1:=hid (B0.out.trans (hb.mono B0.out.size));have B2:=hid (B1.out.trans (b2.mono B1.out.size));have HV:=hid hv.symm;have HF:=hid hf;rw[hv] at d0 d1 d2;clear hv b2 A2 hb hf B0 B1 DI;cases h1:(f !=0)
 ·obtain⟨g,e0,e1,e2⟩:=HF.out (by simpa using h1)
  subst e0;subst e1;subst e2;have X1:=hid g;clear g HF;go_wp21;rw[HV.out];clear d0 d1 d2 HV h1;refine(LE.out X1.out v2 B2.out).mono ?_;rintro e w3 ⟨p,n,c,r,rfl,hb,hp⟩;have B3:=hid (B2.out.trans (hb.mono B2.out.size));have HP:=hid hp;clear hb hp B2;go_wp21;go_ret2;exact⟨_,_,_,r,rfl,B3.out,λh=>⟨X1.out,HP.out h⟩⟩
 ·go_wp21
  rw[HV.out];go_ret2;exact⟨_,_,_,f,rfl,B2.out,λh=>(by rw[h] at h1;cases h1)⟩
end
section
open Go.RowKit Go.Shelf Lib Str Limb
attribute [local go_sem] Oper.semAt_some
theorem z4g (m n:Nat) (hn:0<n) (hx:(zD m).length<=17) (hy:(zD n).length<=17) (w:zA) (hw:Wd w):
 qJ 151 #[St (zD m),St (zD n)] w (.tuple #[St (zD (m/n)),St (zD (m%n)),.int .i64 0]):=by
 have x1:=(zaf m 17 (by omega)).1 hx;have y1:=(zaf n 17 (by omega)).1 hy;have e17:(10:Nat)^17=100000000000000000:=by decide
 rw[e17] at x1 y1;have hb:=λW=>zj7 (m:Int) (n:Int) (by rw[zd9];omega) (by rw[zd9];omega) W;have hs:=λW=>zth (m:Int) (n:Int) (by rw[Str.zad];exact hx) (by rw[Str.zad];exact hy) W;have hdl:m/n<=m:=Nat.div_le_self _ _;have hml:m%n<=m:=Nat.mod_le _ _;have d1:(m:Int).tdiv (n:Int)=((m/n:Nat):Int):=by rw[Int.tdiv_eq_ediv_of_nonneg (by omega)];rfl
 have d2:(m:Int).tmod (n:Int)=((m%n:Nat):Int):=by rw[Int.tmod_eq_emod_of_nonneg (by omega)];rfl
 generalize m/n=q at*
 generalize m%n=r at*
 have hit:=λW hW=>zb3 (q:Int) (by omega) (by omega) W hW;have hiz:=λW hW=>zb3 (r:Int) (by omega) (by omega) W hW;simp only[Str.zad] at hb hs hit hiz;have w1:IntKind.i64.wrap ((m:Int).tdiv (n:Int))=(q:Int):=by rw[d1];exact zI _ (by omega)
 have w2:IntKind.i64.wrap ((m:Int).tmod (n:Int))=(r:Int):=by rw[d2];exact zI _ (by omega)
 have w3:wrap64 ((m:Int)/(n:Int))=(q:Int):=by
  rw[<-Int.tdiv_eq_ediv_of_nonneg (by omega),d1];unfold wrap64;omega
 have w4:wrap64 ((m:Int)%(n:Int))=(r:Int):=by
  rw[<-Int.tmod_eq_emod_of_nonneg (by omega),d2];unfold wrap64;omega
 have hyn:(zD n==[48])=false:=by
  rw[beq_eq_false_iff_ne];intro h;have:=congrArg val h;rw[zb2] at this;have:n=0:=by rw[this];decide
  omega
 have hne:¬zD n=[48]:=by simpa using hyn
 have hn1:¬n=0:=by omega
 have HB:=hid hb;have HIT:=hid hit;have HIZ:=hid hiz;have HS:=hid hs;have HW:=hid hw;clear hb hit hiz hs hw hx hy x1 y1 e17 hdl hml;have w5:IntKind.i64.wrap ((m:Int)/(n:Int))=(q:Int):=by rw[<-w1,Int.tdiv_eq_ediv_of_nonneg (by omega)]
 have HD:=hid d2;clear d1 d2;have hr1:decide ((r:Int)<0)=false:=decide_eq_false (by omega);have hn2:decide ((n:Int)<0)=false:=decide_eq_false (by omega);go_enter Tryz.func151,Tryz.ntmps151;go_wp21;refine zzM (HB.out w) λw3 hw3=>?_;have hw3':=hw3.symm;subst hw3';go_wp21;refine zzM (HS.out w) λw4 hw4=>?_;have hw4':=hw4.symm;subst hw4';have hB2:qL w w:=zM _ _;go_wp21
 (refine wp_region_quiet_lit (by kernel_rfl) (by kernel_rfl) (WQ.out ?_);(repeat(first|(apply WQ.read (by rfl);(focus(rintro W ⟨n,rfl⟩;go_simp;try with_reducible rfl));try simp only[zzQ])|(apply WQ.skip (by rfl);try simp only[zzQ])));refine WQ.nil ?_;rintro _ ⟨nq,rfl⟩)
 simp only[HD.out];clear w1 w2 w3 w4 w5 HD;have hrz:r=0\/¬r=0:=by omega
 rcases hrz with rfl|hrz
 all_goals
  go_wp21;have hB3:=zao hB2 nq;refine zzM (HIT.out (w.drewN nq) (HW.out.below hB3)) λw5 hb5=>?_;have hB5:=hB3.trans (hb5.mono hB3.size);clear hb5 hB3 hB2;go_wp21;refine zzM (HIZ.out w5 (HW.out.below hB5)) λw6 hb6=>?_;have hB6:=hB5.trans (hb6.mono hB5.size);clear hb6 hB5;go_wp21;go_ret3;exact⟨rfl,hB6⟩
theorem z6o (m n:Nat) (hn:0<n) (hx:(zD m).length<=300) (hy:(zD n).length<=300) (h:17<(zD m).length\/17<(zD n).length) (w:zA):
 qJ 151 #[St (zD m),St (zD n)] w (.tuple #[St (zD (m/n)),St (zD (m%n)),.int .i64 0]):=by
 have c1:=λW=>zj7 (m:Int) (n:Int) (by rw[zd9];exact hx) (by rw[zd9];exact hy) W;have c2:=λW=>ztj (m:Int) (n:Int) (by rw[Str.zad,Str.zad];exact h) (by rw[Str.zad];omega) (by rw[Str.zad];omega) W;have c3:=λW=>znu (m:Int) W (by rw[zd9];omega);have c4:=λW=>znu (n:Int) W (by rw[zd9];omega);have bx:=zve (m:Int) 50 (by omega) (by rw[zd9];exact hx);have by':=zve (n:Int) 50 (by omega) (by rw[zd9];exact hy);rw[Int.natAbs_natCast] at bx by';have c5:=λvx vy W h1 h2=>zs1 vx vy m n W h1 h2 (by omega) (by omega) hn;have bq:(zaa B6 (m/n)).length<=50:=zO (zed (Nat.div_le_self _ _)) bx;have br:(zaa B6 (m%n)).length<=50:=zO (zed (Nat.mod_le _ _)) bx
 have c6:=λv W h1=>z1a false v (m/n) W h1 (by omega) (by
  show digs ((m/n:Nat):Int)<=300;rw[zd9];exact(zaf _ 300 (by omega)).2 (Nat.lt_of_le_of_lt (Nat.div_le_self _ _) ((zaf _ 300 (by omega)).1 hx)))
 have c7:=λv W h1=>zt0 false v (m%n) W h1 (by omega);have s1:∀k:Nat,sgn false k=(k:Int):=λk=>rfl;simp only[s1,Str.zad,Int.natAbs_natCast,show ∀k:Nat,decide ((k:Int)<0)=false from λk=>decide_eq_false (by omega)] at c1 c2 c3 c4 c6 c7;have hyn:(zD n==[48])=false:=by
  rw[beq_eq_false_iff_ne];intro h;have:=congrArg val h;rw[zb2] at this;have:n=0:=by rw[this];decide
  omega
 have hne:¬zD n=[48]:=by simpa using hyn
 have C1:=hid c1;have C2:=hid c2;have C3:=hid c3;have C4:=hid c4;have C5:=hid c5;have C6:=hid c6;have C7:=hid c7;clear c1 c2 c3 c4 c5 c6 c7 hx hy h bx by' bq br hn s1;generalize zD m=u at*
 generalize zD n=v at*
 generalize zD (m/n)=t at*
 generalize zD (m%n)=t' at*
 go_enter Tryz.func151,Tryz.ntmps151;go_wp21;refine zzM (C1.out w) λw1 hw1=>?_;have hw1':=hw1.symm;subst hw1';go_wp21;refine(C2.out w).mono ?_;rintro e w2 ⟨⟨a,b,rfl⟩,hw2⟩;have hw2':=hw2.symm;subst hw2';go_wp21;refine(C3.out w).mono ?_;rintro e w3 ⟨vx,rfl,hsx,hb3⟩;have H3:=hid (⟨hsx,hb3⟩:_/\_);clear hsx hb3;go_wp21;refine(C4.out w3).mono ?_;rintro e w4 ⟨vy,rfl,hsy,hb4⟩;have hsx:=H3.out.1.below hb4;have hB4:=H3.out.2.trans (hb4.mono H3.out.2.size);clear hb4 H3;obtain⟨px,kx,cx,rfl, -⟩:=zbx hsx;obtain⟨py,ky,cy,rfl, -⟩:=zbx hsy;obtain⟨w5,hw5⟩:=zzX ((w4.alloc (.cells #[.bool false,.slice px kx cx] 254)).alloc (.cells #[.bool false,.slice py ky cy] 254));have hb5:qL w4 w5:=by rw[hw5];exact((zM _ w4).alloc (zN _) _).alloc (by simp) _
 have a13:w5.heap[w4.heap.size]? =some (.cells #[.bool false,.slice px kx cx] 254 (0,0)):=by
  rw[hw5];exact(Below.heap_alloc _ _ _ (by simp only[zH];omega)).trans (heap_alloc_new w4 _)
 have a14:w5.heap[w4.heap.size+1]? =some (.cells #[.bool false,.slice py ky cy] 254 (0,0)):=by
  rw[hw5];have:=heap_alloc_new (w4.alloc (.cells #[.bool false,.slice px kx cx] 254)) (.cells #[.bool false,.slice py ky cy] 254);rwa [zH] at this
 have hz5:w5.heap.size=w4.heap.size+2:=by rw[hw5];simp
 have H5:=hid (⟨hsx.below hb5,hsy.below hb5,hB4.trans (hb5.mono hB4.size),a13,a14,hz5⟩:_/\_/\_/\_/\_/\_);have HW5:=hid hw5;clear hsx hsy hB4 hb5 a13 a14 hz5 hw5;go_wp21;rw[<-HW5.out];refine(C5.out _ _ w5 H5.out.1 H5.out.2.1).mono ?_;rintro e w6 ⟨v1,v2,rfl,hs1,hs2,hb6⟩;obtain⟨p1,k1,cc1,rfl,hk1⟩:=zbx hs1;obtain⟨p2,k2,cc2,rfl,hk2⟩:=zbx hs2;have a13:=(hb6.block w4.heap.size (by have:=H5.out.2.2.2.2.2;omega)).trans H5.out.2.2.2.1;have a14:=(hb6.block (w4.heap.size+1) (by have:=H5.out.2.2.2.2.2;omega)).trans H5.out.2.2.2.2.1;have n0:w6.cell? ⟨w4.heap.size,0,none⟩=some (.bool false):=by simp[World.cell?,a13]
 have n1:w6.cell? ⟨w4.heap.size+1,0,none⟩=some (.bool false):=by simp[World.cell?,a14]
 obtain⟨w7,hw7⟩:=zzX ((w6.alloc (.cells #[.bool false,.slice p1 k1 cc1] 254)).alloc (.cells #[.bool false,.slice p2 k2 cc2] 254));have hb7:qL w6 w7:=by rw[hw7];exact((zM _ w6).alloc (zN _) _).alloc (by simp) _
 have a17:w7.heap[w6.heap.size]? =some (.cells #[.bool false,.slice p1 k1 cc1] 254 (0,0)):=by
  rw[hw7];exact(Below.heap_alloc _ _ _ (by simp only[zH];omega)).trans (heap_alloc_new w6 _)
 have a18:w7.heap[w6.heap.size+1]? =some (.cells #[.bool false,.slice p2 k2 cc2] 254 (0,0)):=by
  rw[hw7];have:=heap_alloc_new (w6.alloc (.cells #[.bool false,.slice p1 k1 cc1] 254)) (.cells #[.bool false,.slice p2 k2 cc2] 254);rwa [zH] at this
 have hz7:w7.heap.size=w6.heap.size+2:=by rw[hw7];simp
 have hB7:qL w w7:=(H5.out.2.2.1.trans (hb6.mono H5.out.2.2.1.size)).trans (hb7.mono (zO H5.out.2.2.1.size hb6.size));have d0:w7.cell? ⟨w6.heap.size,0,none⟩=some (.bool false):=by simp[World.cell?,a17]
 have d1:w7.cell? ⟨w6.heap.size,1,none⟩=some (.slice p1 k1 cc1):=by simp[World.cell?,a17]
 have z6:=hb6.size;have m0:w7.cell? ⟨w4.heap.size,0,none⟩=some (.bool false):=by rw[hb7.cell (p:=⟨w4.heap.size,0,none⟩) (by have:=H5.out.2.2.2.2.2;simp;omega)];exact n0
 have m1:w7.cell? ⟨w4.heap.size+1,0,none⟩=some (.bool false):=by rw[hb7.cell (p:=⟨w4.heap.size+1,0,none⟩) (by have:=H5.out.2.2.2.2.2;simp;omega)];exact n1
 rw[hw7] at m0 m1;have H7:=hid (⟨hs1.below hb7,hB7,a18,hz7,hs2.below hb7⟩:_/\_/\_/\_/\_);have HW7:=hid hw7;clear hs1 hs2 hb6 hk1 hk2 a13 a14 hb7 a17 a18 hz7 hB7 hw7 H5 HW5 hyn hne;go_wp21
 all_goals
  rw[<-HW7.out];refine zzM (C6.out _ w7 H7.out.1) λw8 hb8=>?_;have a18:=(hb8.block (w6.heap.size+1) (by have:=H7.out.2.2.2.1;omega)).trans H7.out.2.2.1;have g0:w8.cell? ⟨w6.heap.size+1,0,none⟩=some (.bool false):=by simp[World.cell?,a18]
  have g1:w8.cell? ⟨w6.heap.size+1,1,none⟩=some (.slice p2 k2 cc2):=by simp[World.cell?,a18]
  have HB8:=hid (H7.out.2.1.trans (hb8.mono H7.out.2.1.size));have S8:=hid (H7.out.2.2.2.2.below hb8);clear a18 hb8;go_wp21;refine zzM (C7.out _ w8 S8.out) λw9 hb9=>?_;have HB9:=qT HB8 hb9;clear hb9;go_wp21;go_ret3;exact⟨rfl,HB9.out⟩
theorem yb8 (m n:Nat) (hn:0<n) (hx:(zD m).length<=300) (hy:(zD n).length<=300) (w:zA) (hw:Wd w):
 qJ 151 #[St (zD m),St (zD n)] w (.tuple #[St (zD (m/n)),St (zD (m%n)),.int .i64 0]):=by
 by_cases h:17<(zD m).length\/17<(zD n).length
 ·exact z6o m n hn hx hy h w
 ·exact z4g m n hn (by omega) (by omega) w hw
structure RtS (W:zA) (n:Nat) (b:Value) (f:Nat->Bool) (X:zA):Prop where
 pre:qL W X
 cv:f 2=true->∃p c,b=.slice p (zaa B6 n).length c/\Sl X b ((zaa B6 n).map I)
theorem RtS.congr {W:zA} {n:Nat} {b:Value} {f g:Nat->Bool} {X:zA} (h:RtS W n b f X) (e:g 2=f 2):RtS W n b g X:=⟨h.pre,by rw[e];exact h.cv⟩
theorem RtS.next {W:zA} {n:Nat} {b:Value} {f g:Nat->Bool} {X X':zA} (h:RtS W n b f X) (e:g 2=f 2) (hb:qL X X'):RtS W n b g X':=
 ⟨h.pre.trans (hb.mono h.pre.size),λk=>by rw[e] at k;obtain⟨p,c,e,s⟩:=h.cv k;exact⟨p,c,e,s.below hb⟩⟩
theorem z4h {r n:Nat} (h:n<r*r):0<r/\(r+n/r)/2<r:=by
 have h0:0<r:=by
  rcases Nat.eq_zero_or_pos r with e|e
  ·subst e;simp at h
  ·exact e
 have:n/r<r:=(Nat.div_lt_iff_lt_mul h0).2 h;omega
theorem ybk {r n:Nat} (h1:isq n<=r) (h2:r*r<=n):r=isq n:=by
 have h3:=(zv0 n).2;have:r<isq n+1:=Nat.mul_self_lt_mul_self_iff.1 (Nat.lt_of_le_of_lt h2 h3);omega
theorem yaw {m n:Nat}:decide (0<ordN m n)=decide (n<m):=by
 unfold ordN;by_cases h:m<n
 ·rw[if_pos h,decide_eq_false (by omega),decide_eq_false (by omega)]
 ·rw[if_neg h]
  by_cases e:n<m
  ·rw[if_neg (by omega),decide_eq_true (by omega),decide_eq_true e]
  ·rw[if_pos (by omega),decide_eq_false (by omega),decide_eq_false e]
theorem z9k {r:Nat} (h:(zaa B6 r).length<=100):(zaa B6 (r*r)).length<=1000/\(zaa B6 (2*r)).length<=1000:=by
 have h1:=zS (zgb (B:=B6) (by decide) r) (yF (show 0<B6 by decide) h);have h2:r*r<B6^(100+100):=by rw[Nat.pow_add];exact Nat.mul_lt_mul'' h1 h1
 have h3:2*r<B6^(1+100):=by rw[Nat.pow_add];exact Nat.mul_lt_mul'' (by decide) h1
 exact⟨zO (zfv (by decide) h2) (by omega),zO (zfv (by decide) h3) (by omega)⟩
theorem yax (k:Nat):(⟨(49::List.replicate k 48).toArray⟩:ByteArray)++⟨#[48]⟩=⟨(49::List.replicate (k+1) 48).toArray⟩:=by
 have e:∀x y:List UInt8,(⟨x.toArray⟩:ByteArray)++⟨y.toArray⟩=⟨(x++y).toArray⟩:=λx y=>by
  apply ByteArray.ext;simp
 have:=e (49::List.replicate k 48) [48];rw[List.replicate_succ'];exact this
theorem z6t (s:ByteArray) (n L K:Nat) (hs:s.size=L) (hK:(L+1)/2=K) (hL:L<=200)
 (w:zA) (_:Hid (Wd w))
 (C1:Hid (∀W:zA,zC zF 224 #[.string s] W λe w'=>e=.returned (.int .i64 0)/\w'=W))
 (C2:Hid (∀W:zA,zC zF 218 #[.string s] W λe w'=>∃v,e=.returned (.agg #[.bool false,v])/\Sl w' v ((zaa B6 n).map I)/\Below W.heap.size W w'))
 (C3:Hid (∀W:zA,zC zF 218 #[.string ⟨(49::List.replicate K 48).toArray⟩] W λe w'=>∃v,e=.returned (.agg #[.bool false,v])/\Sl w' v ((zaa B6 (10^K)).map I)/\Below W.heap.size W w'))
 (LK:Hid (isq n<=10^K)) (ln:(zaa B6 n).length<=50) (lk:(zaa B6 (10^K)).length<=100):
 qJ 154 #[.string s] w (.tuple #[St (zD (isq n)),.int .i64 0]):=by
 go_enter Tryz.func154,Tryz.ntmps154;go_wp21;refine zzM (C1.out w) λw1 hw1=>?_;have hw1':=hw1.symm;subst hw1';go_wp21;refine(C2.out w).mono ?_;rintro e w2 ⟨vx,rfl,hvx,hb2⟩;obtain⟨px,kx,cx,rfl, -⟩:=zbx hvx;obtain⟨w3,hw3⟩:=zzX (w2.alloc (.cells #[.bool false,.slice px kx cx] 254));have b3:qL w2 w3:=by rw[hw3];exact(zM _ w2).alloc (zN _) _
 have A3:w3.heap[w2.heap.size]? =some (.cells #[.bool false,.slice px kx cx] 254 (0,0)):=by rw[hw3];exact heap_alloc_new w2 _
 have k0:w3.cell? ⟨w2.heap.size,0,none⟩=some (.bool false):=by simp[World.cell?,A3]
 rw[hw3] at k0;have D3:=hid (hb2.trans (b3.mono hb2.size));have X3:=hid (hvx.below b3);have HA:=hid A3;have HV:=hid hw3.symm;clear hvx hb2 hw3 b3 A3;go_wp21;rw[HV.out];clear HV k0;go_loopw [6,7] (λp i wr=>∃(k:Nat),k<=K/\i=.int .i64 (k:Int)/\p=.string ⟨(49::List.replicate k 48).toArray⟩/\wr=w3)
  (λ_ i _=>K-(zL i).toNat)
 case atStart=>exact⟨0,zR _,rfl,rfl,rfl⟩
 case round=>
  obtain⟨k,hk,rfl,rfl,rfl⟩:=hrel;by_cases hlt:k<K
  ·go_wp21
   go_roundw
   case rel=>exact⟨k+1,by omega,by go_num,by rw[Value.string.injEq];exact yax k,trivial⟩
   case measure=>simp[zL];omega
  ·have hkn:k=K:=by omega
   subst hkn;go_wp21;refine(C3.out wr).mono ?_;rintro e w4 ⟨vr,rfl,hvr,hb4⟩;have D4:=hid (D3.out.trans (hb4.mono D3.out.size));have X4:=hid (X3.out.below hb4);have HA4:=hid (zac hb4 _ _ _ _ HA.out);have R4:=hid hvr;obtain⟨pr,kr,cr,rfl, -⟩:=zbx hvr;clear hb4 hvr;have hfd:=zld;go_wp21;go_loopg [8] (10^k) (λm vr wr=>∃r p kr c,vr=.slice p kr c/\Hid (m=r)/\Hid (isq n<=r)/\(zaa B6 r).length<=100/\Hid (Sl wr (.slice p kr c) ((zaa B6 r).map I))/\Hid (qL w wr)/\Hid (Sl wr (.slice px kx cx) ((zaa B6 n).map I))/\Hid (wr.heap[w2.heap.size]? =some (.cells #[.bool false,.slice px kx cx] 254 (0,0))))
   case atStart=>exact⟨10^k,pr,kr,cr,rfl,rfl,LK.out,lk,R4,D4,X4,HA4⟩
   case round=>
    clear R4 D4 X4 HA4 D3 X3 HA;obtain⟨r,p,kr,c,rfl,hm,hr,lr,RS,D5,X5,HA5⟩:=hrel;obtain⟨lq,l2⟩:=z9k lr;have TM:=hid λW h1=>ztg (.slice p kr c) (.slice p kr c) (zaa B6 r) (zaa B6 r) W h1 h1 (zak (by decide) _) (zak (by decide) _) (by omega) (by omega);obtain⟨o,ho⟩:=zzX (ordN (r*r) n);obtain⟨bb,hbb⟩:=zzX (decide (n<r*r));have hob:decide (0<o)=bb:=by rw[ho,hbb];exact yaw
    have HO:=hid ho;have HBB:=hid hbb;clear ho hbb;go_wp21;refine zc4 (λ(b:Value) i=>([.slice p kr c,.slice p kr c,b,.pointer (some ⟨w2.heap.size,1,none⟩),.slice px kx cx,.int .i64 o,.bool bb]:List Value)[i]?.getD undef)
     (RtS wr (r*r)) (by kernel_rfl) (by kernel_rfl) (.slice none 0 0) ⟨(zM _ wr).drew,λk=>(by cases k)⟩ λb=>?_
    refine qB (.slice p kr c) (λf W' h=>h.congr rfl) ?_;refine qB (.slice p kr c) (λf W' h=>h.congr rfl) ?_;simp only[zzQ]
    refine zdc b (by rfl) (by rfl) (λf W' hf h C' hC'=>by
     have h2:=hf.self;go_simp;refine(TM.out W' (RS.out.below h.pre)).mono ?_;intro e w' hr';rw[zam (B:=B6) (by decide)] at hr';obtain⟨q,d,rfl,hs,hb⟩:=z3f hr';refine⟨_,rfl,hC' (.slice q (zaa B6 (r*r)).length d) w' (λi hi=>?_) ⟨h.pre.trans (hb.mono h.pre.size),λ_=>⟨q,d,rfl,hs⟩⟩⟩
     match i,hi with
     |0,_|1,_|3,_|4,_|5,_|6,_=>rfl
     |2,hi=>rw[h2] at hi;cases hi
     |_+7,_=>rfl) ?_
    refine qB (.pointer (some ⟨w2.heap.size,1,none⟩)) (λf W' h=>h.congr rfl) ?_;refine qB (.slice px kx cx) (λf W' h=>h.congr rfl) ?_ (hy:=λf W' hf h=>by
     have c1:W'.cell? ⟨w2.heap.size,1,none⟩=some (.slice px kx cx):=by have:=zac h.pre _ _ _ _ HA5.out;simp[World.cell?,this]
     go_simp)
    try simp only[zzQ]
    refine zdc (.int .i64 o) (by rfl) (by rfl) (λf W' hf h C' hC'=>by
     obtain⟨q,d,e,hs⟩:=h.cv (hf.done 2 (by kernel_rfl));subst e;have SZ:=zu4 _ (.slice px kx cx) (r*r) n W' hs (X5.out.below h.pre) lq (by omega);rw[<-HO.out] at SZ;go_simp;refine zzM SZ λw' hb=>?_;exact⟨_,rfl,hC' (.slice q (zaa B6 (r*r)).length d) w' (λi hi=>rfl) (h.next rfl hb)⟩) ?_
    refine qB (.bool bb) (λf W' h=>h.congr rfl) ?_;simp only[zzQ];refine ze1 λf W4 hf h=>?_;have D6:=hid (D5.out.trans (h.pre.mono D5.out.size));have X6:=hid (X5.out.below h.pre);have HA6:=hid (zac h.pre _ _ _ _ HA5.out);have R6:=hid (RS.out.below h.pre);clear h hf D5 X5 HA5 RS TM;cases bb
    ·have hre:=ybk hr.out (Nat.le_of_not_lt (of_decide_eq_false HBB.out.symm))
     have WR:=hid (show qJ 222 #[.agg #[.bool false,.slice p kr c]] W4 (St (zD (isq n))) by
      have:=zt0 false _ r W4 R6.out (by omega);rw[show sgn false r=(r:Int) from rfl,Str.zad] at this;rw[<-hre];exact this)
     clear hre;go_wp21;refine zzM WR.out λw9 hb9=>?_;have DZ:=hid (D6.out.trans (hb9.mono D6.out.size));clear hb9;go_wp21;go_ret2;exact⟨rfl,DZ.out⟩
    ·have hlt:n<r*r:=of_decide_eq_true HBB.out.symm
     obtain⟨hr0,hrl⟩:=z4h hlt;have HL:=hid hrl;have HR0:=hid hr0;clear hlt hrl hr0 HBB HO hob;have c1:W4.cell? ⟨w2.heap.size,1,none⟩=some (.slice px kx cx):=by have:=HA6.out;simp[World.cell?,this]
     go_wp21;clear c1;refine(zs1 (.slice px kx cx) (.slice p kr c) n r W4 X6.out R6.out (by omega) (by omega) HR0.out).mono ?_;rintro e w5 ⟨v1,v2,rfl,hs1,hs2,hb5⟩;obtain⟨p1,k1,d1,rfl, -⟩:=zbx hs1;obtain⟨p2,k2,d2,rfl, -⟩:=zbx hs2;have D7:=hid (D6.out.trans (hb5.mono D6.out.size));have X7:=hid (X6.out.below hb5);have HA7:=hid (zac hb5 _ _ _ _ HA6.out);have R7:=hid (R6.out.below hb5);have Q7:=hid hs1;clear hs1 hs2 hb5 D6 X6 HA6 R6;go_wp21;refine(ybg (.slice p kr c) (.slice p1 k1 d1) r (n/r) w5 R7.out Q7.out (by omega) (zO (zed (Nat.div_le_self _ _)) (by omega))).mono ?_;rintro e w6 ⟨p3,c3,k3,rfl,hs3,hb6⟩;have D8:=hid (D7.out.trans (hb6.mono D7.out.size));have X8:=hid (X7.out.below hb6);have HA8:=hid (zac hb6 _ _ _ _ HA7.out);obtain⟨w7,hw7⟩:=zzX (w6.alloc (.cells #[.int .i64 2] 3));have b7:qL w6 w7:=by rw[hw7];exact(zM _ w6).alloc (zN _) _
     have T7:Sl w7 (.slice (some ⟨w6.heap.size,0,none⟩) 1 1) ((zaa B6 2).map I):=by
      rw[show zaa B6 2=[2] by decide+kernel,hw7];exact zwi w6 2 _ rfl
     have S7:=hid (hs3.below b7);have D9:=hid (D8.out.trans (b7.mono D8.out.size));have X9:=hid (X8.out.below b7);have HA9:=hid (zac b7 _ _ _ _ HA8.out);have HT:=hid T7;have HV:=hid hw7.symm;clear hs3 hb6 hw7 b7 T7 D7 X7 HA7 R7 Q7 D8 X8 HA8;go_wp21;rw[HV.out];clear HV;refine(zs1 _ _ (r+n/r) 2 w7 S7.out HT.out (zO (zed (show r+n/r<=2*r by have:=HL.out;omega)) l2) (by rw[show zaa B6 2=[2] by decide+kernel];simp) (by omega)).mono ?_;rintro e w8 ⟨v3,v4,rfl,hs3,hs4,hb8⟩;obtain⟨p5,k5,d5,rfl, -⟩:=zbx hs3;obtain⟨p6,k6,d6,rfl, -⟩:=zbx hs4;have DA:=hid (D9.out.trans (hb8.mono D9.out.size));have XA:=hid (X9.out.below hb8);have HAA:=hid (zac hb8 _ _ _ _ HA9.out);have RA:=hid hs3;clear hs3 hs4 hb8 D9 X9 HA9 S7 HT;go_wp21;go_roundg ((r+n/r)/2)
     case measure=>rw[hm.out];exact HL.out
     case rel=>exact⟨(r+n/r)/2,p5,k5,d5,rfl,rfl,ztp HR0.out (zv0 n).1 hr.out,zO (zed (Nat.le_of_lt HL.out)) lr,RA.out,DA.out,XA.out,HAA.out⟩
theorem z7z (n:Nat) (h:(zD n).length<=200) (w:zA) (hw:Wd w):
 qJ 154 #[St (zD n)] w (.tuple #[St (zD (isq n)),.int .i64 0]):=by
 have bn:=zve (n:Int) 34 (by omega) (by rw[zd9];omega);rw[Int.natAbs_natCast] at bn;have hK:((zD n).length+1)/2<=100:=by omega
 have hL2:(zD n).length<=2*(((zD n).length+1)/2):=by omega
 have n1:=(zaf n _ (List.length_pos_iff.2 (zci n))).1 (zN (zD n).length);generalize hKe:((zD n).length+1)/2=K at*
 have n2:n<10^K*10^K:=by
  rw[<-Nat.pow_add];exact zS n1 (yF (by omega) (by omega))
 have ik:isq n<=10^K:=Nat.le_of_lt (Nat.mul_self_lt_mul_self_iff.1 (Nat.lt_of_le_of_lt (zv0 n).1 n2));have pk:(zD (10^K)).length=K+1:=by rw[z13];simp
 have bk:=zve ((10^K:Nat):Int) 17 (by omega) (by rw[zd9];omega);rw[Int.natAbs_natCast] at bk;refine z6t ⟨(zD n).toArray⟩ n (zD n).length K rfl hKe h w (hid hw) (hid λW=>?_) (hid λW=>?_) (hid λW=>?_) (hid ik) (by omega) (by omega)
 ·have:=zh6 (n:Int) (by rw[zd9];omega) W
  rwa [Str.zad] at this
 ·have:=znu (n:Int) W (by rw[zd9];omega)
  rwa [Str.zad,Int.natAbs_natCast,decide_eq_false (by omega)] at this
 ·have:=znu ((10^K:Nat):Int) W (by rw[zd9];omega)
  rw[Str.zad,Int.natAbs_natCast,decide_eq_false (Int.not_lt.2 (Int.natCast_nonneg _)),z13] at this;exact this
theorem zyk (N C L:Nat) (HCL:SaS N C L) (hN0:0<N) (h17:17<(zD N).length) (hl:(zD N).length<=200) (w:zA) (hw:Wd w):
 qJ 88 #[St (zD N)] w (.tuple #[St (zD L),St (zD C)]):=by
 have HW:=hid hw;have HP:=hid (λW=>zpo W);have HL:=hid hl;clear hw;obtain⟨s,hs⟩:=zzX (⟨(zD N).toArray⟩:ByteArray);have hsz:¬s.size<=17:=by rw[hs];show ¬(zD N).toArray.size<=17;simp;omega
 have hsI:¬(s.size:Int)<=17:=by omega
 rw[show St (zD N)=.string s by rw[hs]];have HS:=hid hs;clear hs hsz h17 hl;go_enter Tryz.func88,Tryz.ntmps88;go_wp21;refine(HP.out w).mono ?_;rintro e w0 ⟨A,rfl,hb,hc⟩;have B0:=hid hb;have HC0:=hid hc;clear hb hc HP;go_wp21;go_loopw [0,9,10] (λlf c i wr=>∃k cN lN:Nat,k<=25/\c=St (zD cN)/\lf=St (zD lN)/\i=.int .i64 (k:Int)/\Hid (cN*cN*lN=N)/\Hid (NrmS N k (cN,lN))/\Hid (qL w wr)/\Hid (∀i,i<25->wr.cell? ⟨A,i,none⟩=some (I (prN i))))
  (λ_ _ i _=>25-(zL i).toNat)
 case atStart=>exact⟨0,1,N,by omega,by rw[zfg],by rw[HS.out],rfl,hid (by omega),hid (NrmS.start N),B0,HC0⟩
 case round=>
  clear B0 HC0;obtain⟨k,cN,lN,hk,rfl,rfl,rfl,hE,hD,hB,hC⟩:=hrel;by_cases hlt:k<25
  ·obtain⟨g1,g2⟩:=zw4 k hlt
   have hcell:=hid (hC.out k hlt);obtain⟨p,hp⟩:=zzX (prN k);rw[<-hp] at g1 g2 hcell;have HPk:=hid hp;clear hp;have hpq:p*p<=97*97:=Nat.mul_le_mul g2 g2;have hwp:IntKind.i64.wrap ((p:Int)*(p:Int))=((p*p:Nat):Int):=by
    rw[<-Int.natCast_mul];exact zI _ (by omega)
   have hpp:4<=p*p:=Nat.mul_le_mul g1 g1;have hit:=λW hW=>zb3 ((p*p:Nat):Int) (by omega) (by omega) W hW;have hip:=λW hW=>zb3 (p:Int) (by omega) (by omega) W hW;rw[Str.zad] at hit hip;obtain⟨pp,hpp2⟩:=zzX (p*p);rw[<-hpp2] at hwp hpp hit hpq;have HPP:=hid hpp2;clear hpp2;have HIT:=hid hit;have HIP:=hid hip;clear hit hip;have hkI:(k:Int)<25:=by omega
   go_wp21;refine zc4 (λ(_:Unit) i=>([.slice (some ⟨A,0,none⟩) 25 25,.int .i64 (k:Int),.pointer (some ⟨A,k,none⟩),.int .i64 (p:Int),.slice (some ⟨A,0,none⟩) 25 25,.int .i64 (k:Int),.pointer (some ⟨A,k,none⟩),.int .i64 (p:Int),.int .i64 (pp:Int),St (zD pp),St (zD pp)]:List Value)[i]?.getD undef)
    (λ_ _ W=>qL wr W) (by kernel_rfl) (by kernel_rfl) () (zM _ wr).drew λ_=>?_
   refine qB (.slice (some ⟨A,0,none⟩) 25 25) (λf W' h=>h) ?_;refine qB (.int .i64 (k:Int)) (λf W' h=>h) ?_;refine qB (.pointer (some ⟨A,k,none⟩)) (λf W' h=>h) ?_;simp only[zzQ];refine qB (.int .i64 (p:Int)) (λf W' h=>h) ?_ (hy:=λf W' hf h=>by have c0:=zai h hcell.out;go_simp);refine qB (.slice (some ⟨A,0,none⟩) 25 25) (λf W' h=>h) ?_;refine qB (.int .i64 (k:Int)) (λf W' h=>h) ?_;simp only[zzQ];refine qB (.pointer (some ⟨A,k,none⟩)) (λf W' h=>h) ?_;refine qB (.int .i64 (p:Int)) (λf W' h=>h) ?_ (hy:=λf W' hf h=>by have c0:=zai h hcell.out;go_simp);refine qB (.int .i64 (pp:Int)) (λf W' h=>h) ?_;simp only[zzQ]
   refine zdc (St (zD pp)) (by rfl) (by rfl) (λf W' hf h C' hC'=>by
    go_simp;refine zzM (HIT.out W' (HW.out.below (hB.out.trans (h.mono hB.out.size)))) λw' hb=>?_;exact⟨_,rfl,hC' () w' (λi hi=>rfl) (h.trans (hb.mono h.size))⟩) ?_
   refine qB (St (zD pp)) (λf W' h=>h) ?_;simp only[zzQ];refine ze1 λf W4 hf h=>?_;have B4:=hid (hB.out.trans (h.mono hB.out.size));have C4:=hid (λi (hi:i<25)=>zai h (hC.out i hi));clear h hf hB hC hcell;go_wp21;go_loopg [0,9] lN (λm lf c wr=>∃cN lN:Nat,c=St (zD cN)/\lf=St (zD lN)/\Hid (m=lN)/\Hid (cN*cN*lN=N)/\Hid (NrmS N (k+1) (zkk p (cN,lN)))/\Hid (qL w wr)/\Hid (∀i,i<25->wr.cell? ⟨A,i,none⟩=some (I (prN i))))
   case atStart=>exact⟨cN,lN,rfl,rfl,rfl,hE,hid (hD.out.enter hlt HPk.out),B4,C4⟩
   case round=>
    clear hE hD B4 C4;obtain⟨cN,lN,rfl,rfl,hm,hE,hD,hB,hC⟩:=hrel;have hl0:0<lN:=yS (λh=>by have:=hE.out;rw[h] at this;simp at this;omega);have hc0:0<cN:=yS (λh=>by have:=hE.out;rw[h] at this;simp at this;omega);have hle:lN<=N:=by rw[<-hE.out];exact Nat.le_mul_of_pos_left _ (Nat.mul_pos hc0 hc0)
    have hll:(zD lN).length<=200:=(zaf _ 200 (by omega)).2 (Nat.lt_of_le_of_lt hle ((zaf _ 200 (by omega)).1 HL.out));have hpl:(zD pp).length<=5:=(zaf _ 5 (by omega)).2 (by omega);have DV:=hid (yb8 lN pp (by omega) (by omega) (by omega) wr (HW.out.below hB.out));clear hll hpl;go_wp21;refine zzM DV.out λw5 hb=>?_;have B5:=hid (hB.out.trans (hb.mono hB.out.size));have C5:=hid (λi (hi:i<25)=>zai hb (hC.out i hi));clear hb hB hC DV;by_cases hd:pp∣lN
    ·have hr0:zD (lN%pp)=[48]:=by rw[Nat.mod_eq_zero_of_dvd hd,zae (by omega)];rfl
     have hnext:=z1s (c:=cN) (l:=lN) (p:=p) (by rw[<-HPP.out];exact hd);rw[<-HPP.out,hE.out] at hnext;have hl1:0<lN/pp:=yS (λh=>by rw[h] at hnext;simp at hnext;omega);have hcp:cN*p<=N:=by
      rw[<-hnext];exact zO (Nat.le_mul_self _) (Nat.le_mul_of_pos_right _ hl1)
     have hlt2:lN/pp<lN:=Nat.div_lt_self hl0 (by omega);have hkeep:NrmS N (k+1) (zkk p (cN*p,lN/pp)):=by rw[HPP.out];exact hD.out.yes g1 hl0 (by rw[<-HPP.out];exact hd)
     have N2:=(zaf _ 200 (by omega)).1 HL.out;have dl:∀x:Nat,x<=N->digs (x:Int)<=300:=λx hx=>by
      rw[zd9];exact zO ((zaf _ 200 (by omega)).2 (Nat.lt_of_le_of_lt hx N2)) (by omega)
     have hcN:cN<=N:=zO (Nat.le_mul_of_pos_right _ (by omega)) hcp;have hpN:p<=N:=zO (Nat.le_mul_of_pos_left _ hc0) hcp;have TM:=λW hW=>zrm (cN:Int) (p:Int) (dl _ hcN) (dl _ hpN) (by rw[<-Int.natCast_mul];exact dl _ hcp) W hW;rw[<-Int.natCast_mul,Str.zad,Str.zad,Str.zad] at TM;have HTM:=hid TM;have HNX:=hid hnext;have HK:=hid hkeep;have HLT:=hid hlt2;have hcell:=C5.out k hlt;rw[<-HPk.out] at hcell;clear hnext hkeep hd hlt2 hl1 hcp N2 dl hcN hpN TM hE hD;go_wp21;refine zzM (HIP.out w5 (HW.out.below B5.out)) λw6 hb=>?_;have B6:=hid (B5.out.trans (hb.mono B5.out.size));have C6:=hid (λi (hi:i<25)=>zai hb (C5.out i hi));clear hb B5 C5 hcell;go_wp21;refine zzM (HTM.out w6 (HW.out.below B6.out)) λw7 hb=>?_;have B7:=hid (B6.out.trans (hb.mono B6.out.size));have C7:=hid (λi (hi:i<25)=>zai hb (C6.out i hi));clear hb B6 C6;go_wp21;go_roundg (lN/pp)
     case measure=>rw[hm.out];exact HLT.out
     case rel=>exact⟨cN*p,lN/pp,rfl,rfl,rfl,HNX,HK,B7,C7⟩
    ·have hr0:¬zD (lN%pp)=[48]:=λh=>hd (Nat.dvd_of_mod_eq_zero (by
      have:=congrArg val h;rw[zb2] at this;rw[this];decide))
     have hkeep:NrmS N (k+1) (cN,lN):=hD.out.no (by rw[<-HPP.out];exact hd);have HK:=hid hkeep;clear hkeep hd;have hrb:(zD (lN%pp)==[48])=false:=beq_eq_false_iff_ne.2 hr0;go_wp21;go_roundw
     case rel=>exact⟨k+1,cN,lN,by omega,rfl,rfl,by go_num,hE,HK,B5,C5⟩
     case measure=>simp[zL];omega
  ·have hk25:k=25:=by omega
   have HNC:=hid (show(C,L)=(cN,lN) by
    have hd:=hD.out;rw[hk25] at hd;exact HCL.out.symm.trans hd.done)
   clear hD HCL hE hC;obtain⟨e1,e2⟩:=Prod.mk.inj HNC.out;subst e1;subst e2;clear HNC;have hkI:¬(k:Int)<25:=by omega
   go_wp21;go_ret2;exact⟨rfl,hB.out⟩
end
section
open Go.RowKit Go.Shelf Lib Str Limb Geo
attribute [local go_sem] Oper.semAt_some
section
variable {w W W':zA} {a b c a' b' c':List UInt8} {d d':Value}
end
end
section
open Go.RowKit Go.Shelf Lib Str Limb
attribute [local go_sem] Oper.semAt_some
def h12 (X Y Z:Nat->List UInt8) (D:Nat->Value):Array Value:= #[St (X 0),St (Y 0),St (Z 0),D 0,St (X 1),St (Y 1),St (Z 1),D 1,St (X 2),St (Y 2),St (Z 2),D 2]
section
variable {w W W':zA} {ha hb hc X X':Array Value} {T:Nat} {D:Option Nat}
end
section
variable {w W:zA} {hb hc:Array Value} {T:Nat} {D:Option Nat}
end
section
variable {w W W':zA} {ha hb hc X V:Array Value} {T D O:Nat} {o0 o1 o2:Value}
end
section
variable {w W W':zA} {X Y Z cx cy cz:Nat->List UInt8} {Dv:Nat->Value} {T B k:Nat}
end
theorem z9m (p p':Option Addr) (c c' n:Nat) (X Y:Nat->ByteArray) (hn:n<=5000) (w:zA) (HP:Hid (RowTm p n X Y w)) (HP':Hid (RowTm p' n X Y w)):
 qJ 20 #[.slice p n c,.slice p' n c'] w (.bool true):=by
 have D0:=hid (zM w.heap.size w);go_enter Tryz.func20,Tryz.ntmps20;go_wp21;go_loopw [13] (λi wr=>∃(k:Nat),k<=n/\i=.int .i64 (k:Int)/\Hid (qL w wr))
  (λi _=>n-(zL i).toNat)
 case atStart=>exact⟨0,zR _,rfl,D0⟩
 case round=>
  clear D0;obtain⟨k,hk,rfl,hB⟩:=hrel;by_cases hlt:k<n
  ·obtain⟨b,off,rfl,c0,c1⟩:=(HP.out.keep (zac hB.out)) k hlt
   obtain⟨b',off',rfl,d0,d1⟩:=(HP'.out.keep (zac hB.out)) k hlt;have HQ:=hid λm=>hB.out.trans ((zao (zM _ wr) m).mono hB.out.size);clear hB;generalize X k=x at*
   generalize Y k=y at*
   go_wp21;go_quiet (fail);go_wp21;go_roundw
   case rel=>exact⟨k+1,by omega,by go_num,hid (HQ.out _)⟩
   case measure=>simp[zL];omega
  ·go_wp21
   go_ret;exact⟨rfl,hB.out⟩
theorem eq_l (v v':Value) (l:List (Rat×Nat)) (hl:l.length<=5000) (w:zA) (h:SdL v l w) (h':SdL v' l w):
 qJ 20 #[v,v'] w (.bool true):=by
 obtain⟨p,cap,rfl, -,hx⟩:=h.slice;obtain⟨p',cap',rfl, -,hx'⟩:=h'.slice;have at_:∀i,i<l.length->∃t,l[i]? =some t:=λi hi=>⟨_,List.getElem?_eq_getElem hi⟩;refine z9m p p' cap cap' l.length (λi=>⟨(numS ((l[i]?.getD (1,1)).1)).toArray⟩) (λi=>⟨(zD ((l[i]?.getD (1,1)).2)).toArray⟩) hl w (hid λi hi=>?_) (hid λi hi=>?_)
 ·obtain⟨t,ht⟩:=at_ i hi
  obtain⟨b,off,e, -,h1,h2⟩:=hx i t ht;refine⟨b,off,e,?_,?_⟩
  ·simp only[ht,Option.getD_some];exact h1
  ·simp only[ht,Option.getD_some];exact h2
 ·obtain⟨t,ht⟩:=at_ i hi
  obtain⟨b,off,e, -,h1,h2⟩:=hx' i t ht;refine⟨b,off,e,?_,?_⟩
  ·simp only[ht,Option.getD_some];exact h1
  ·simp only[ht,Option.getD_some];exact h2
end
section
open Go.RowKit Go.Shelf Lib Str Limb
theorem zrr (x:Rat):(x.num:Rat)=x*(x.den:Rat):=by
 have h:=Rat.num_divInt_den x;rw[Rat.divInt_eq_div] at h;have h0:((x.den:Int):Rat)≠0:=by
  have:=x.den_nz;exact_mod_cast this
 have h1:(x.num:Rat)=x*((x.den:Int):Rat):=by
  conv=>rhs;rw[<-h]
  grind
 exact_mod_cast h1
theorem yeg (q:Rat):0<=rt q:=by
 unfold rt;have h1:(0:Rat)<=((isq q.num.natAbs:Nat):Rat):=by exact_mod_cast zR _
 rcases Nat.eq_zero_or_pos (isq q.den) with h|h
 ·rw[h,show(((0:Nat)):Rat)=0 from rfl,Rat.div_def,Rat.inv_zero,Rat.mul_zero];exact Rat.le_refl
 ·rw[Rat.div_def]
  exact Rat.mul_nonneg h1 (Rat.le_of_lt (Rat.inv_pos.2 (by exact_mod_cast h)))
theorem z71 {x y:Rat} (hx:0<=x) (h:x<y):x*x<y*y:=by
 have h1:=Rat.mul_lt_mul_of_pos_left h (show 0<y by grind);have h2:=Rat.mul_le_mul_of_nonneg_right (Rat.le_of_lt h) hx;grind
theorem z41 {x y:Rat} (hx:0<=x) (hy:0<=y) (h:x*x=y*y):x=y:=by
 have h3:x<y\/x=y\/y<x:=by grind
 rcases h3 with k|k|k
 ·have:=z71 hx k;grind
 ·exact k
 ·have:=z71 hy k;grind
theorem z43 {p:Rat} (hp:0<p):rt (p/p)=1:=
 z41 (yeg _) (by decide) (by rw[zxd (div_pos hp hp) (zx1 hp)];grind)
theorem z73 {p q r:Rat} (hp:0<p) (hq:0<q) (hr:0<r) (h:z5c p q=true) (k:z5c q r=true):rt (p/q)*rt (q/r)=rt (p/r):=by
 refine z41 (Rat.mul_nonneg (yeg _) (yeg _)) (yeg _) ?_;have h1:=zxd (div_pos hp hq) h;have h2:=zxd (div_pos hq hr) k;rw[zxd (div_pos hp hr) (zw8 hp hq hr h k)];generalize rt (p/q)=x at h1⊢;generalize rt (q/r)=y at h2⊢;grind
def ph1 (r:Nat) (t:Rat×Nat):Rat:=if z5c (t.2:Rat) (r:Rat)=true then t.1*rt ((t.2:Rat)/(r:Rat)) else 0
def phi (r:Nat):List (Rat×Nat)->Rat
 |[]=>0
 |t::l=>ph1 r t+phi r l
theorem z5a (r:Nat):∀l m:List (Rat×Nat),phi r (l++m)=phi r l+phi r m
 |[],m=>by rw[List.nil_append,show phi r []=0 from rfl,Rat.zero_add]
 |t::l,m=>by rw[yM,show phi r (t::(l++m))=ph1 r t+phi r (l++m) from rfl,z5a r l m,show phi r (t::l)=ph1 r t+phi r l from rfl,Rat.add_assoc]
theorem yay (r:Nat) (t:Rat×Nat) (c:Rat):ph1 r (t.1*c,t.2)=ph1 r t*c:=by
 unfold ph1;dsimp only;split
 ·grind
 ·rw[Rat.zero_mul]
theorem z5b (r:Nat) (c:Rat):∀l:List (Rat×Nat),phi r (sclL l c)=phi r l*c
 |[]=>by rw[show phi r []=0 from rfl,Rat.zero_mul];rfl
 |t::l=>by
  rw[show phi r (sclL (t::l) c)=ph1 r (t.1*c,t.2)+phi r (sclL l c) from rfl,z5b r c l,yay,show phi r (t::l)=ph1 r t+phi r l from rfl,Rat.add_mul]
theorem ybl {r:Nat} (hr:0<r) {c t:Rat×Nat} (hc:(0:Rat)<(c.2:Rat)) (ht:(0:Rat)<(t.2:Rat)) (h:z5c (t.2:Rat) (c.2:Rat)=true):ph1 r (plG c t)=ph1 r c+ph1 r t:=by
 have hr':(0:Rat)<(r:Rat):=by exact_mod_cast hr
 have h':=zu5 ht hc h;unfold plG;split
 ·unfold ph1
  dsimp only;by_cases k:z5c (t.2:Rat) (r:Rat)=true
  ·rw[if_pos k,if_pos k,if_pos (zw8 hc ht hr' h' k),<-z73 hc ht hr' h' k]
   grind
  ·rw[if_neg k,if_neg k,if_neg (λe=>k (zw8 ht hc hr' h e)),Rat.add_zero]
 ·unfold ph1
  dsimp only;by_cases k:z5c (c.2:Rat) (r:Rat)=true
  ·rw[if_pos k,if_pos k,if_pos (zw8 ht hc hr' h k),<-z73 ht hc hr' h k]
   grind
  ·rw[if_neg k,if_neg k,if_neg (λe=>k (zw8 hc ht hr' h' e)),Rat.add_zero]
theorem z74 {r:Nat} (hr:0<r) {t:Rat×Nat} (ht:(0:Rat)<(t.2:Rat)):∀{l:List (Rat×Nat)},PosR l->phi r (gaG l t)=phi r l+ph1 r t
 |[],_=>by show ph1 r t+0=0+ph1 r t;rw[Rat.add_zero,Rat.zero_add]
 |c::l,h=>by
  have hc:=h c (yD ..);unfold gaG;split
  ·rename_i k
   show ph1 r (plG c t)+phi r l=ph1 r c+phi r l+ph1 r t;rw[ybl hr hc ht k];grind
  ·show ph1 r c+phi r (gaG l t)=ph1 r c+phi r l+ph1 r t
   rw[z74 hr ht λd hd=>h d (List.mem_cons_of_mem _ hd)];grind
theorem z8c {r:Nat} (hr:0<r):∀{T A:List (Rat×Nat)},PosR A->PosR T->phi r (T.foldl gaG A)=phi r A+phi r T
 |[],A,_,_=>by rw[List.foldl_nil,show phi r []=0 from rfl,Rat.add_zero]
 |t::T,A,hA,hT=>by
  have ht:=hT t (yD ..);have hA':PosR (gaG A t):=λc hc=>by
   rcases z44 hc with⟨d,hd,e⟩|e
   ·rw[<-e];exact hA d hd
   ·rw[<-e];exact ht
  rw[List.foldl_cons,z8c hr hA' λc hc=>hT c (List.mem_cons_of_mem _ hc),z74 hr ht hA];show _=phi r A+(ph1 r t+phi r T);grind
theorem zkd (r:Nat):∀l:List (Rat×Nat),phi r (l.filter λc=>!decide (c.1=0))=phi r l
 |[]=>rfl
 |t::l=>by
  rw[List.filter_cons];by_cases h:t.1=0
  ·rw[if_neg (by simp[h]),zkd r l]
   show _=ph1 r t+phi r l;have:ph1 r t=0:=by unfold ph1;rw[h,Rat.zero_mul,ite_self]
   rw[this,Rat.zero_add]
  ·rw[if_pos (by simp[h])]
   show ph1 r t+phi r _=ph1 r t+phi r l;rw[zkd r l]
theorem z5d (r:Nat) (t:Rat×Nat):∀l:List (Rat×Nat),phi r (insS t l)=ph1 r t+phi r l
 |[]=>rfl
 |c::l=>by
  unfold insS;split
  ·rfl
  ·show ph1 r c+phi r (insS t l)=ph1 r t+(ph1 r c+phi r l)
   rw[z5d r t l];grind
theorem z5j (r:Nat):∀l:List (Rat×Nat),phi r (srtS l)=phi r l
 |[]=>rfl
 |t::l=>by rw[show srtS (t::l)=insS t (srtS l) from rfl,z5d,z5j r l];rfl
theorem ybm {r:Nat} (hr:0<r) {T:List (Rat×Nat)} (hT:PosR T):phi r (mkG T)=phi r T:=by
 unfold mkG keG;rw[z5j,zkd,z8c hr (λ_ h=>by cases h) hT,show phi r []=0 from rfl,Rat.zero_add]
theorem z3i (r:Nat):∀{l:List (Rat×Nat)},(∀t∈l,z5c (t.2:Rat) (r:Rat)=false)->phi r l=0
 |[],_=>rfl
 |t::l,h=>by
  show ph1 r t+phi r l=0;rw[z3i r λc hc=>h c (List.mem_cons_of_mem _ hc)];unfold ph1;rw[h t (yD ..),if_neg (by decide),Rat.add_zero]
theorem z5k:∀{l:List (Rat×Nat)},ULs l->PosR l->∀c∈l,phi c.2 l=c.1
 |[],_,_,c,h=>by cases h
 |t::l,hu,hp,c,h=>by
  show ph1 c.2 t+phi c.2 l=c.1;have hu':ULs l:=λi k a b hik ha hb=>hu (i+1) (k+1) a b (by omega) (by simpa using ha) (by simpa using hb);have hp':PosR l:=λa ha=>hp a (List.mem_cons_of_mem _ ha);have at_:∀{a:Rat×Nat},a∈l->∃i,l[i]? =some a:=λha=>List.mem_iff_getElem?.1 ha;rcases List.mem_cons.1 h with rfl|hc
  ·rw[z3i c.2 λa ha=>by
    obtain⟨i,hi⟩:=at_ ha;exact hu 0 (i+1) c a (by omega) rfl (by simpa using hi)]
   have:=hp c (yD ..);unfold ph1;rw[zx1 this,if_pos rfl,z43 this];grind
  ·rw[z5k hu' hp' c hc]
   obtain⟨i,hi⟩:=at_ hc;have:=hu (i+1) 0 c t (by omega) (by simpa using hi) rfl;unfold ph1;rw[this];simp;exact Rat.zero_add _
theorem ybw {T:List (Rat×Nat)} (hT:PosR T):PosR (mkG T):=λc hc=>(zw2 hT T.length).2 c (zx8 hc).1
theorem yaz {T:List (Rat×Nat)} (hT:PosR T):ULs (mkG T):=λi k t u hik ht hu=>by
 have hi:IncS (mkG T):=zxo (z1u hT);refine zz8 (zw2 hT T.length).1 t (zx8 (List.mem_of_getElem? ht)).1 u (zx8 (List.mem_of_getElem? hu)).1 λe=>?_;subst e;rcases Nat.lt_or_ge i k with h|h
 ·have:=zrq hi h ht hu;omega
 ·have:=zrq hi (by omega:k<i) hu ht;omega
theorem ya0 {T:List (Rat×Nat)} (hT:PosR T) (h:∀r,0<r->phi r T=0):mkG T=[]:=by
 rcases hm:mkG T with _|⟨c,l⟩
 ·rfl
 ·have hc:c∈mkG T:=by rw[hm];exact yD ..
  have hp:=ybw hT c hc;have hr:0<c.2:=by exact_mod_cast hp
  have:=z5k (yaz hT) (ybw hT) c hc;rw[ybm hr hT,h _ hr] at this;exact absurd this.symm (zx8 hc).2
theorem ybx {l m:List (Rat×Nat)} (hl:PosR l) (hm:PosR m):PosR (l++m):=λt ht=>(List.mem_append.1 ht).elim (hl t) (hm t)
theorem yby {l:List (Rat×Nat)} (h:PosR l) (c:Rat):PosR (sclL l c):=λt ht=>by
 obtain⟨u,hu,rfl⟩:=List.mem_map.1 ht;exact h u hu
end
section
open Go.RowKit Go.Shelf Lib Str Limb Geo
attribute [local go_sem] Oper.semAt_some
theorem z9n (q:Rat):∃h0:0<(⟨(numS q).toArray⟩:ByteArray).size,(((((⟨(numS q).toArray⟩:ByteArray)[0]'h0).toNat:Int)==45)=decide (q<0)):=by
 have hne:numS q≠[]:=yaj q;obtain⟨s1,s2,s3,s4⟩:=zco (numS q) hne _ rfl;have h0:0<(⟨(numS q).toArray⟩:ByteArray).size:=by
  show 0<(numS q).toArray.size;have:=List.length_pos_iff.2 hne;simpa using this
 refine⟨h0,?_⟩;rw[s4 h0];have hs:(q<0)↔q.num<0:=by
  constructor
  ·intro h
   refine Classical.byContradiction λhn=>?_;have:=Rat.num_nonneg.1 (show 0<=q.num by omega);grind
  ·intro h
   refine Classical.byContradiction λhn=>?_;have:=Rat.num_nonneg.2 (show 0<=q by grind);omega
 rw[decide_eq_decide.2 hs];unfold numS;rcases zbg q.num with⟨hx,e⟩|⟨hx,e⟩
 ·obtain⟨c,r,hd,hc1,hc2⟩:=Str.dec_head q.num.natAbs
  rw[decide_eq_false (by omega),beq_eq_false_iff_ne];simp only[e,hd,yM,List.head_cons];omega
 ·rw[decide_eq_true (by omega)]
  simp only[e,yM,List.head_cons];rfl
end
section
open Go.RowKit Go.Shelf Lib Str Limb
attribute [local go_sem] Oper.semAt_some
theorem z18 (n:Nat) (h17:17<(zD n).length) (hl:(zD n).length<=200) (w:zA) (hw:Wd w):
 qJ 90 #[St (zD n)] w (.tuple #[St (zD (isq n)),.bool (decide (isq n*isq n=n))]):=by
 have RT:=hid λW hW=>z7z n hl W hW;have n1:=(zaf n 200 (by omega)).1 hl;have dl:∀x:Nat,x<=n->digs (x:Int)<=300:=λx hx=>by
  rw[zd9];exact zO ((zaf _ 200 (by omega)).2 (Nat.lt_of_le_of_lt hx n1)) (by omega)
 have i1:=(zv0 n).1;have i2:isq n<=n:=zO (Nat.le_mul_self _) i1;have TM:=λW hW=>zrm (isq n:Int) (isq n:Int) (dl _ i2) (dl _ i2) (by rw[<-Int.natCast_mul];exact dl _ i1) W hW;rw[<-Int.natCast_mul,Str.zad,Str.zad] at TM;have HT:=hid TM;have hq:(zD (isq n*isq n)==zD n)=decide (isq n*isq n=n):=yan;have hsz:¬(⟨(zD n).toArray⟩:ByteArray).size<=17:=by show ¬(zD n).toArray.size<=17;simp;omega
 have HW:=hid hw;clear TM dl n1 i1 i2 hw hl h17;generalize decide (isq n*isq n=n)=bb at*
 generalize zD (isq n*isq n)=z at*
 generalize zD (isq n)=y at*
 generalize zD n=u at*
 have hsI:¬((⟨u.toArray⟩:ByteArray).size:Int)<=17:=by omega
 clear hsz;go_enter Tryz.func90,Tryz.ntmps90;go_wp21;refine zzM (RT.out w HW.out) λw1 hb=>?_;have B1:=hid hb;clear hb;go_wp21;refine zzM (HT.out w1 (HW.out.below B1.out)) λw2 hb=>?_;have B2:=hid (B1.out.trans (hb.mono B1.out.size));clear hb;go_wp21;go_ret2;exact⟨rfl,B2.out⟩
theorem z3k (n:Nat) (hl:(zD n).length<=200) (w:zA) (hw:Wd w):
 qJ 90 #[St (zD n)] w (.tuple #[St (zD (isq n)),.bool (decide (isq n*isq n=n))]):=by
 by_cases h:(zD n).length<=17
 ·exact z3w n ((zaf n 17 (by omega)).1 h) w hw
 ·exact z18 n (by omega) hl w hw
theorem z19 (N C L:Nat) (HCL:SaS N C L) (hN0:0<N) (hl:(zD N).length<=200) (w:zA) (hw:Wd w):
 qJ 88 #[St (zD N)] w (.tuple #[St (zD L),St (zD C)]):=by
 by_cases h:(zD N).length<=17
 ·exact zyd N C L HCL hN0 ((zaf N 17 (by omega)).1 h) w hw
 ·exact zyk N C L HCL hN0 (by omega) hl w hw
theorem z9o (q:Rat) (hq:0<q) (w:zA):
 qJ 86 #[St (numS q)] w (.int .i64 1):=by
 obtain⟨h0,h1⟩:=z9n q;rw[decide_eq_false (by grind)] at h1;have hz0:(numS q==[48])=false:=zsf (by grind);obtain⟨s,hs⟩:=zzX (⟨(numS q).toArray⟩:ByteArray);have hz:(s.toList==[48])=false:=by
  rw[hs,ByteArray.toList_eq];exact hz0
 rw[show St (numS q)=.string s from by rw[hs]];obtain⟨h2,h3⟩:∃h:0<s.size,(((s[0]'h).toNat:Int)==45)=false:=by subst hs;exact⟨h0,h1⟩
 clear hs hq h0 h1 hz0;go_enter Tryz.func86,Tryz.ntmps86;go_wp21;go_ret;exact⟨rfl,zM _ _⟩
theorem zvl (q:Rat) (hq:0<q) (sq:sz q 90) (w:zA) (hw:Wd w):
 qJ 45 #[St (numS q)] w (.tuple #[St (numS (((zn7 (q.num.natAbs*q.den)).1:Rat)/(q.den:Rat))),St (zD (zn7 (q.num.natAbs*q.den)).2),.int .i64 0]):=by
 obtain⟨en,n0⟩:=z9b hq;have d0:=q.den_pos;obtain⟨n,hn⟩:=zzX q.num.natAbs;obtain⟨d,hd⟩:=zzX q.den;have okq:=zoo (k:=90) (by omega) (by omega) sq;have s1:=sq.1;have s2:=sq.2;have xp:=λW hW=>zp5 q okq W hW;rw[en] at xp;rw[<-hn] at n0 s1 xp⊢;rw[<-hd] at d0 s2 xp⊢;have hN:=zcc s1 s2;have N0:=Nat.mul_pos n0 d0;obtain⟨N,hNe⟩:=zzX (n*d);rw[<-hNe] at hN N0⊢;have lN:(zD N).length<=180:=(zaf N 180 (by omega)).2 hN;obtain⟨C,L,hCL⟩:∃C L,zro prL (1,N)=(C,L):=by
  generalize zro prL (1,N)=x;exact⟨x.1,x.2,rfl⟩
 have hinv:C*C*L=N:=by
  have:=zlt prL (1,N);rw[hCL] at this;simpa using this
 have hC0:0<C:=yS (λh=>by rw[h] at hinv;simp at hinv;omega);have hL0:0<L:=yS (λh=>by rw[h] at hinv;simp at hinv;omega);have hLn:L<=N:=by rw[<-hinv];exact Nat.le_mul_of_pos_left _ (Nat.mul_pos hC0 hC0)
 have half:∀x:Nat,x*x<=N->x<10^90:=λx hx=>Nat.mul_self_lt_mul_self_iff.1 (Nat.lt_of_le_of_lt hx (by rw[<-Nat.pow_add];exact hN));have hCn:C<10^90:=half C (by rw[<-hinv];exact Nat.le_mul_of_pos_right _ hL0);have hsq:=(zv0 L).1;have iL:isq L<10^90:=half _ (zO hsq hLn);have hm:isq L*isq L=L->C*isq L<10^90:=λh=>half _ (by
  have h2:(C*isq L)*(C*isq L)=N:=by
   rw[<-hinv]
   conv=>rhs;rw[<-h]
   generalize isq L=s;ac_rfl
  omega)
 have dl:∀x:Nat,x<10^180->digs (x:Int)<=300:=λx hx=>by
  rw[zd9];exact zO ((zaf x 180 (by omega)).2 hx) (by omega)
 have up:∀x:Nat,x<10^90->x<10^180:=λx hx=>zS hx (yF (by omega) (by omega));have mul:∀a b:Nat,a<10^90->b<10^90->∀W,Wd W->qJ 89 #[St (zD a),St (zD b)] W (St (zD (a*b))):=λa b ha hb W hW=>by
  have hab:a*b<10^(90+90):=zcc ha hb;have:=zrm (a:Int) (b:Int) (dl a (up a ha)) (dl b (up b hb)) (by rw[<-Int.natCast_mul];exact dl _ hab) W hW;rw[<-Int.natCast_mul,Str.zad,Str.zad,Str.zad] at this;exact this
 have snat:∀x:Nat,x<10^90->sz (x:Rat) 90:=λx hx=>zrg (by omega) ((zaf x 90 (by omega)).2 hx);have quo:∀k:Nat,k<10^90->∀W,Wd W->qJ 91 #[St (zD k),St (zD d)] W (St (numS ((k:Rat)/(d:Rat)))):=λk hk W hW=>by
  have:=z7b (k:Rat) (d:Rat) 90 90 (by omega) (by omega) (by omega) (snat k hk) (snat d s2) (by exact_mod_cast d0) W hW;rwa [zhe,zhe] at this
 have main:=z01 (numS q) (zD n) (zD d) (zD N) (zD C) (zD L) (zD (isq L)) (numS (((zn7 N).1:Rat)/(d:Rat))) (zD (C*isq L)) (decide (isq L*isq L=L))
  (hid λW A hW hA=>z2g (some ⟨A,0,none⟩) 1 1 (λ_=>q) (by omega) (λi _=>⟨okq,sq⟩) W (hid hW) (hid (yam A _ q W hA)))
  (hid λW=>z9o q hq W)
  (hid xp)
  (hid λW hW=>by rw[hNe];exact mul n d s1 s2 W hW)
  (hid λW hW=>z19 N C L ⟨hCL⟩ N0 (by omega) W hW)
  (hid λW hW=>z3k L ((zaf L 200 (by omega)).2 (Nat.lt_of_le_of_lt hLn (zS hN (yF (by omega) (by omega))))) W hW)
  (hid λh W hW=>mul C (isq L) hCn iL W hW)
  (hid λW hW=>?_) w (hid hw)
 ·have hnc:zn7 N=if isq L*isq L=L then(C*isq L,1) else(C,L):=by unfold zn7;rw[hCL]
  have e2:(if decide (isq L*isq L=L)=true then Value.string ⟨#[49]⟩ else St (zD L))=St (zD (zn7 N).2):=by
   rw[hnc];by_cases h:isq L*isq L=L
   ·rw[if_pos (decide_eq_true h),if_pos h];show _=St (zD 1);rw[zfg]
   ·rw[if_neg (by simpa using h),if_neg h]
  rw[e2] at main;exact main
 ·have hnc:zn7 N=if isq L*isq L=L then(C*isq L,1) else(C,L):=by unfold zn7;rw[hCL]
  rw[hnc];by_cases h:isq L*isq L=L
  ·rw[if_pos (decide_eq_true h),if_pos h];exact quo _ (hm h) W hW
  ·rw[if_neg (by simpa using h),if_neg h];exact quo _ hCn W hW
end
end Go.Proofs.YtfoodcpnnmonhaaGreatDoor
