/- rational.cut, at any string: which strings have the form of a number. -/
import Derived.Test.YthfpmfdiamldoaaGreatDoorG14
import Derived.OwnWalkIn
set_option maxRecDepth 100000
set_option maxHeartbeats 8000000
open Go renaming World → zA, Calls → zC
open Go.RowKit renaming Below → zB
open Go.Lib renaming decDigits → zD
open Go.Proofs.Tryz renaming prog → zF
open Go.World renaming alloc_heap_new → zG
open Go.RowKit.Below renaming refl → zM
open Nat renaming le_refl → zN, lt_of_lt_of_le → zS
open List renaming append_nil → yH
namespace Go.Proofs.YthfpmfdiamldoaaGreatDoor
section
open Go.RowKit Go.Shelf Lib Str Limb
def zzo (l:List UInt8):Prop:=zds (upS l)/\¬(l.head? =some 45/\upS l=[48])/\(hasS l->zds (dnS l)/\dnS l≠[48]/\dnS l≠[49])
def nuS (l:List UInt8):List UInt8:=l.takeWhile (· !=47)
theorem yab (b:List UInt8):nuS (45::b)=45::b.takeWhile (· !=47):=by unfold nuS;rw[List.takeWhile_cons];rfl
theorem ybj (l:List UInt8):Lib.trimPrefix (nuS l) [45]=upS l/\Lib.hasPrefix (nuS l) [45]=decide (l.head? =some 45):=by
 rcases zhb l with⟨h1,h2⟩|⟨h1,h2⟩
 ·have e:nuS l=45::upS l:=by
   unfold upS
   conv=>lhs;rw[h2]
   exact yab _
  rw[e,decide_eq_true h1]
  exact⟨rfl,rfl⟩
 ·have e:nuS l=upS l:=by unfold upS nuS;rw[<-h2]
  have hp:Lib.hasPrefix (nuS l) [45]=false:=by
   cases l with
   |nil=>rfl
   |cons a r=>
    unfold nuS
    rw[List.takeWhile_cons]
    have ha:a≠45:=λe=>h1 (by rw[e];rfl)
    split
    ·show([45]:List UInt8).isPrefixOf (a::_)=false
     simp[List.isPrefixOf]
     exact λe=>absurd e.symm ha
    ·rfl
  rw[hp,decide_eq_false h1]
  unfold Lib.trimPrefix
  rw[hp,e]
  exact⟨rfl,rfl⟩
theorem z82 {b:List UInt8} (h:(47:UInt8)∈b):b=b.takeWhile (· !=47)++47::(b.dropWhile (· !=47)).tail/\(47:UInt8)∉b.takeWhile (· !=47):=by
 have h2:(47:UInt8)∉b.takeWhile (· !=47):=by
  clear h
  induction b with
  |nil=>simp
  |cons a r ih=>
   rw[List.takeWhile_cons]
   split
   ·rename_i ha
    intro m
    rcases List.mem_cons.1 m with e|m
    ·rw[<-e] at ha;simp at ha
    ·exact ih m
   ·simp
 refine⟨?_,h2⟩
 have h1:=List.takeWhile_append_dropWhile (p:=(· !=(47:UInt8))) (l:=b)
 cases hd:b.dropWhile (· !=47) with
 |nil=>
  rw[hd,yH] at h1
  rw[<-h1] at h
  exact absurd h h2
 |cons a r=>
  have ha:a=47:=by
   have:=List.head_dropWhile_not (· !=(47:UInt8)) (l:=b) (by rw[hd];simp)
   simp only[hd,List.head_cons] at this
   simpa using this
  rw[hd,ha] at h1
  exact h1.symm
theorem ycs (l:List UInt8):Lib.cut l [47]=(nuS l,dnS l,decide ((47:UInt8)∈bare l)):=by
 have hb:(47:UInt8)∈bare l↔(47:UInt8)∈l:=by
  rcases zhb l with⟨_,h2⟩|⟨_,h2⟩
  ·conv=>rhs;rw[h2]
   simp
  ·rw[<-h2]
 have hd:dnS l=(l.dropWhile (· !=47)).tail:=by
  unfold dnS
  rcases zhb l with⟨_,h2⟩|⟨_,h2⟩
  ·conv=>rhs;rw[h2,List.dropWhile_cons]
   rfl
  ·rw[<-h2]
 rw[hd]
 by_cases h:(47:UInt8)∈l
 ·obtain⟨e,h2⟩:=z82 h
  rw[decide_eq_true (hb.2 h)]
  conv=>lhs;rw[e]
  exact z1l _ _ h2
 ·rw[decide_eq_false (λk=>h (hb.1 k)),z2u _ h]
  unfold nuS
  obtain⟨e1,e2,_⟩:=zrt l (λj hj e=>h (by rw[<-e];exact List.getElem_mem hj))
  rw[e1,e2]
theorem ya7 (l:List UInt8) (hl:l.length<=1000) (w:zA) (hw:Wd w):
 zC zF 102 #[St l] w λe w'=>((zzo l/\((hasS l/\e=.returned (.tuple #[.agg #[St (nuS l),St (dnS l)],.bool true]))\/(¬hasS l/\e=.returned (.tuple #[.agg #[St (nuS l),St [49]],.bool true]))))\/(¬zzo l/\e=.returned (.tuple #[.agg #[St [],St []],.bool false])))/\zB w.heap.size w w':=by
 have lu:(upS l).length<=1000:=by
  have h1:(upS l).length<=(bare l).length:=(List.takeWhile_sublist _).length_le
  have h2:(bare l).length<=l.length:=by unfold bare;split<;>simp
  omega
 have ld:(dnS l).length<=1000:=by
  have h1:((bare l).dropWhile (· !=47)).length<=(bare l).length:=(List.dropWhile_sublist _).length_le
  have h2:(bare l).length<=l.length:=by unfold bare;split<;>simp
  have h3:(dnS l).length=((bare l).dropWhile (· !=47)).length-1:=by unfold dnS;rw[List.length_tail]
  omega
 have hq:CutQ ⟨l.toArray⟩ ⟨(nuS l).toArray⟩ ⟨(dnS l).toArray⟩ ⟨(upS l).toArray⟩ (decide ((47:UInt8)∈bare l)) (decide (l.head? =some 45)):=by
  refine⟨hid λW hW=>?_,hid λW=>?_⟩
  ·obtain⟨m,hm⟩:=hW.maxl
   have:=Tryz.strings_Cut ⟨l.toArray⟩ ⟨#[47]⟩ m W (by show l.toArray.size<_;rw[List.size_toArray];omega) hm
   rw[show(⟨l.toArray⟩:ByteArray).data.toList=l from rfl,show(⟨#[47]⟩:ByteArray).data.toList=[47] from rfl,ycs] at this
   exact this
  ·have:=Tryz.strings_CutPrefix ⟨(nuS l).toArray⟩ ⟨#[45]⟩ W
   rw[show(⟨(nuS l).toArray⟩:ByteArray).data.toList=nuS l from rfl,show(⟨#[45]⟩:ByteArray).data.toList=[45] from rfl,(ybj l).1,(ybj l).2] at this
   exact this
 have b48:∀(x k:List UInt8),((⟨x.toArray⟩:ByteArray).toList==k)=decide (x=k):=λx k=>by rw[zfo rfl];by_cases h:x=k<;>simp[h]
 show zC _ _ #[.string ⟨l.toArray⟩] _ _
 rcases yb9 ⟨(upS l).toArray⟩ (by show(upS l).length<=_;omega) with⟨h1,g1⟩|⟨h1,g1⟩
 ·replace h1:zds (upS l):=h1
  by_cases h2:l.head? =some 45/\upS l=[48]
  ·refine(yco _ _ _ _ _ _ hq (hid g1) (decide_eq_true h2.1) (by rw[b48];exact decide_eq_true h2.2) w (hid hw)).mono ?_
   rintro e w' ⟨rfl,hb⟩
   exact⟨.inr ⟨λk=>k.2.1 h2,rfl⟩,hb⟩
  ·have hz:decide (l.head? =some 45)=false\/(decide (l.head? =some 45)=true/\((⟨(upS l).toArray⟩:ByteArray).toList==[48])=false):=by
    by_cases k:l.head? =some 45
    ·exact .inr ⟨decide_eq_true k,by rw[b48];exact decide_eq_false (λe=>h2 ⟨k,e⟩)⟩
    ·exact .inl (decide_eq_false k)
   by_cases hs:(47:UInt8)∈bare l
   ·rw[decide_eq_true hs] at hq
    rcases yb9 ⟨(dnS l).toArray⟩ (by show(dnS l).length<=_;omega) with⟨h3,g2⟩|⟨h3,g2⟩
    ·replace h3:zds (dnS l):=h3
     by_cases h4:dnS l=[48]
     ·refine(yaa _ _ _ _ _ hq (hid g1) hz (hid g2) (.inl (by rw[b48];exact decide_eq_true h4)) w (hid hw)).mono ?_
      rintro e w' ⟨rfl,hb⟩
      exact⟨.inr ⟨λk=>(k.2.2 hs).2.1 h4,rfl⟩,hb⟩
     ·by_cases h5:dnS l=[49]
      ·refine(yaa _ _ _ _ _ hq (hid g1) hz (hid g2) (.inr ⟨by rw[b48];exact decide_eq_false h4,by rw[b48];exact decide_eq_true h5⟩) w (hid hw)).mono ?_
       rintro e w' ⟨rfl,hb⟩
       exact⟨.inr ⟨λk=>(k.2.2 hs).2.2 h5,rfl⟩,hb⟩
      ·refine(ycr _ _ _ _ _ hq (hid g1) hz (hid g2) (by rw[b48];exact decide_eq_false h4) (by rw[b48];exact decide_eq_false h5) w (hid hw)).mono ?_
       rintro e w' ⟨rfl,hb⟩
       exact⟨.inl ⟨⟨h1,h2,λ_=>⟨h3,h4,h5⟩⟩,.inl ⟨hs,rfl⟩⟩,hb⟩
    ·refine(ycq _ _ _ _ _ hq (hid g1) hz (hid g2) w (hid hw)).mono ?_
     rintro e w' ⟨rfl,hb⟩
     exact⟨.inr ⟨λk=>h3 (k.2.2 hs).1,rfl⟩,hb⟩
   ·rw[decide_eq_false hs] at hq
    refine(ycp _ _ _ _ _ hq (hid g1) hz w (hid hw)).mono ?_
    rintro e w' ⟨rfl,hb⟩
    exact⟨.inl ⟨⟨h1,h2,λk=>absurd k hs⟩,.inr ⟨hs,rfl⟩⟩,hb⟩
 ·refine(ycn _ _ _ _ _ _ hq (hid g1) w (hid hw)).mono ?_
  rintro e w' ⟨rfl,hb⟩
  exact⟨.inr ⟨λk=>h1 k.1,rfl⟩,hb⟩
end
section
open Go.RowKit Go.Shelf Lib Str Limb
attribute [local go_sem] Oper.semAt_some
theorem z9d (n d:Nat) (hl:(zD n).length<=8) (hl2:(zD d).length<=8) (hd:2<=d) (hg:Nat.gcd n d≠1) (w:zA):
 qJ 51 #[St (zD n++47::zD d)] w (.tuple #[.agg #[.int .i64 0,.int .i64 0],.bool false]):=by
 obtain⟨s,hs⟩:∃s:ByteArray,s=⟨(zD n++47::zD d).toArray⟩:=⟨_,rfl⟩
 obtain⟨s1,s2,s3,s4⟩:=zco (zD n++47::zD d) (by simp) s hs
 obtain⟨r,hr⟩:∃r:ByteArray,r=⟨(47::zD d).toArray⟩:=⟨_,rfl⟩
 obtain⟨r1,r2,r3,r4⟩:=zco (47::zD d) (by simp) r hr
 have r5:r.extract 1 r.size=⟨(zD d).toArray⟩:=by rw[hr];exact ze9 _ _
 have hc:=zcn n (47::zD d) (zf3 n _) hl (by simp;omega)
 have hc2:=zcn d [] (zd7 d) hl2 (by simp)
 rw[yH] at hc2
 have hgc:=λW=>zj0 n d (zS ((zaf n 8 (by omega)).1 hl) (by omega)) (zS ((zaf d 8 (by omega)).1 hl2) (by omega)) W
 have hg1:((Nat.gcd n d:Int)==1)=false:=by rw[beq_eq_false_iff_ne];omega
 have hg2:((Nat.gcd n d:Int) !=1)=true:=by rw[bne,hg1];rfl
 generalize Nat.gcd n d=g at*
 show zC _ _ #[.string ⟨(zD n++47::zD d).toArray⟩] _ _
 obtain⟨u,hu⟩:∃u:ByteArray,u=⟨(zD n++47::zD d).toArray⟩:=⟨_,rfl⟩
 obtain⟨v,hv⟩:∃v:ByteArray,v=⟨(zD d).toArray⟩:=⟨_,rfl⟩
 have hus:u.size=(zD n++47::zD d).length:=by rw[hu];show(zD n++47::zD d).toArray.size=_;simp
 have hc':∀w,zC zF 99 #[.string u] w λe w'=>∃nd,e=.returned (.tuple #[I n,.string r,.bool true])/\w'=w.drewN nd:=by rw[hu,hr];exact hc
 have hc2':∀w,zC zF 99 #[.string v] w λe w'=>∃nd,e=.returned (.tuple #[I d,St [],.bool true])/\w'=w.drewN nd:=by rw[hv];exact hc2
 rw[<-hs]
 rw[<-hv] at r5
 have r47:(((r[0]'r2).toNat:Int) !=47)=false:=by rw[r4 r2];rfl
 have r1':(1:Int)<=r.size:=by omega
 obtain⟨c,q,hdn,hc1,hc2⟩:=dec_head n
 have h45:(((s[0]'s2).toNat:Int)==45)=false:=by
  rw[beq_eq_false_iff_ne,s4 s2]
  simp only[hdn,List.cons_append,List.head_cons];omega
 have hsu:s=u:=hs.trans hu.symm
 have hnb:n<1000000000:=zS ((zaf n 8 (by omega)).1 hl) (by omega)
 have hd2:¬(d:Int)<2:=by omega
 have HC:=hid hc';have HC2:=hid hc2';have HG:=hid hgc
 clear hc hc' hc2 hc2' hgc hs hr r3 r4 hu hus hl hl2 hg hv s3 s4 hdn
 subst hsu
 go_enter Tryz.func51,Tryz.ntmps51
 go_wp2_with fail
 refine(HC.out _).mono ?_
 rintro e w1 ⟨nd,rfl,rfl⟩
 go_wp2_with fail
 refine(HC2.out _).mono ?_
 rintro e w1 ⟨nd2,rfl,rfl⟩
 go_wp2_with fail
 refine(HG.out _).mono ?_
 rintro e w1 ⟨nd3,rfl,rfl⟩
 go_wp2_with fail
 refine bodyPost_ret (v:=.tuple #[.agg #[.int .i64 0,.int .i64 0],.bool false]) (by simp[results,Tryz.results51,go_sem]) rfl ⟨rfl,?_⟩
 repeat(first|exact zM _ _|refine Below.alloc ?_ (by simp[World.drewN]) _|refine zao ?_ _|refine Below.setCell ?_ (by simp) _)
theorem zzp (n d:Nat) (h0:0<n) (hl:(zD n).length<=8) (hl2:(zD d).length<=8) (hd:2<=d) (hg:Nat.gcd n d≠1) (w:zA):
 qJ 51 #[St (45::(zD n++47::zD d))] w (.tuple #[.agg #[.int .i64 0,.int .i64 0],.bool false]):=by
 obtain⟨s,hs⟩:∃s:ByteArray,s=⟨(45::(zD n++47::zD d)).toArray⟩:=⟨_,rfl⟩
 obtain⟨s1,s2,s3,s4,s5⟩:=zgu _ s hs
 obtain⟨r,hr⟩:∃r:ByteArray,r=⟨(47::zD d).toArray⟩:=⟨_,rfl⟩
 obtain⟨r1,r2,r3,r4⟩:=zco (47::zD d) (by simp) r hr
 have r5:r.extract 1 r.size=⟨(zD d).toArray⟩:=by rw[hr];exact ze9 _ _
 have hc:=zcn n (47::zD d) (zf3 n _) hl (by simp;omega)
 have hc2:=zcn d [] (zd7 d) hl2 (by simp)
 rw[yH] at hc2
 have hgc:=λW=>zj0 n d (zS ((zaf n 8 (by omega)).1 hl) (by omega)) (zS ((zaf d 8 (by omega)).1 hl2) (by omega)) W
 have hg1:((Nat.gcd n d:Int)==1)=false:=by rw[beq_eq_false_iff_ne];omega
 have hg2:((Nat.gcd n d:Int) !=1)=true:=by rw[bne,hg1];rfl
 generalize Nat.gcd n d=g at*
 show zC _ _ #[.string ⟨(45::(zD n++47::zD d)).toArray⟩] _ _
 obtain⟨u,hu⟩:∃u:ByteArray,u=⟨(zD n++47::zD d).toArray⟩:=⟨_,rfl⟩
 obtain⟨v,hv⟩:∃v:ByteArray,v=⟨(zD d).toArray⟩:=⟨_,rfl⟩
 have hus:u.size=(zD n++47::zD d).length:=by rw[hu];show(zD n++47::zD d).toArray.size=_;simp
 have hc':∀w,zC zF 99 #[.string u] w λe w'=>∃nd,e=.returned (.tuple #[I n,.string r,.bool true])/\w'=w.drewN nd:=by rw[hu,hr];exact hc
 have hc2':∀w,zC zF 99 #[.string v] w λe w'=>∃nd,e=.returned (.tuple #[I d,St [],.bool true])/\w'=w.drewN nd:=by rw[hv];exact hc2
 rw[<-hs]
 rw[<-hv] at r5
 have r47:(((r[0]'r2).toNat:Int) !=47)=false:=by rw[r4 r2];rfl
 have r1':(1:Int)<=r.size:=by omega
 rw[<-hu] at s5
 have h45:=s4 s2
 have hsz1:(1:Int)<=s.size:=by omega
 have hlt:(u.size:Int)<s.size:=by omega
 have hn0:((n:Int)==0)=false:=by rw[beq_eq_false_iff_ne];omega
 have hnb:n<1000000000:=zS ((zaf n 8 (by omega)).1 hl) (by omega)
 have hd2:¬(d:Int)<2:=by omega
 have HC:=hid hc';have HC2:=hid hc2';have HG:=hid hgc
 clear hc hc' hc2 hc2' hgc hs hr r3 r4 hu hus hl hl2 hg hv s3 s4
 go_enter Tryz.func51,Tryz.ntmps51
 go_wp2_with fail
 refine(HC.out _).mono ?_
 rintro e w1 ⟨nd,rfl,rfl⟩
 go_wp2_with fail
 refine(HC2.out _).mono ?_
 rintro e w1 ⟨nd2,rfl,rfl⟩
 go_wp2_with fail
 refine(HG.out _).mono ?_
 rintro e w1 ⟨nd3,rfl,rfl⟩
 go_wp2_with fail
 refine bodyPost_ret (v:=.tuple #[.agg #[.int .i64 0,.int .i64 0],.bool false]) (by simp[results,Tryz.results51,go_sem]) rfl ⟨rfl,?_⟩
 repeat(first|exact zM _ _|refine Below.alloc ?_ (by simp[World.drewN]) _|refine zao ?_ _|refine Below.setCell ?_ (by simp) _)
theorem yao (s:ByteArray) (HC:Hid (qK 102 #[.string s] (.tuple #[.agg #[St [],St []],.bool false]))) (w:zA) (HW:Hid (Wd w)):
 qJ 53 #[.string s] w (.tuple #[.agg #[St [],St []],.int .i64 11]):=by
 go_enter Tryz.func53,Tryz.ntmps53
 go_wp2_with fail
 refine(HC.out _ (HW.out.below ((zM _ w).alloc (zN _) _))).mono ?_
 rintro e w1 ⟨rfl,hb1⟩
 have hB1:qL w w1:=((zM _ w).alloc (zN _) _).trans (hb1.mono (by simp))
 have z1:w.heap.size<w1.heap.size:=by have:=hb1.size;simp at this;omega
 have R1:w1.heap[w.heap.size]? =some (.cells #[St [],St []] 82 (0,0)):=(hb1.block _ (by simp)).trans (zG w _)
 clear hb1
 have R20:w1.cell? ⟨w.heap.size,0,none⟩=some (St []):=by simp[World.cell?,R1]
 have R21:w1.cell? ⟨w.heap.size,1,none⟩=some (St []):=by simp[World.cell?,R1]
 have F20:w1.frozen? ⟨w.heap.size,0,none⟩=false:=by simp[World.frozen?,R1]
 have F21:w1.frozen? ⟨w.heap.size,1,none⟩=false:=by simp[World.frozen?,R1]
 clear R1
 go_wp2_with fail
 refine bodyPost_ret (v:=.tuple #[.agg #[St [],St []],.int .i64 11]) (by simp[results,Tryz.results53,go_sem,R20,R21,z1]) rfl ⟨rfl,?_⟩
 repeat(first|exact hB1|exact zM _ _|refine Below.alloc ?_ (by simp[World.setCell]<;>omega) _|refine zao ?_ _|refine Below.setCell ?_ (by simp) _)
theorem zyd (s sn sd own:ByteArray) (HC:Hid (qK 102 #[.string s] (.tuple #[.agg #[.string sn,.string sd],.bool true])))
 (HN:Hid (∀W:zA,qJ 51 #[.string s] W (.tuple #[.agg #[.int .i64 0,.int .i64 0],.bool false])))
 (TP:Hid (∀W:zA,zC zF 103 #[.string sn,.string ⟨#[45]⟩] W λe w'=>e=.returned (.string own)/\w'=W))
 (hz:(300:Int)<own.size\/(¬(300:Int)<own.size/\(300:Int)<sd.size)) (w:zA) (HW:Hid (Wd w)):
 qJ 53 #[.string s] w (.tuple #[.agg #[St [],St []],.int .i64 4]):=by
 rcases hz with s1|⟨s1,s2⟩
 all_goals
  go_enter Tryz.func53,Tryz.ntmps53
  go_wp2_with fail
  refine(HC.out _ (HW.out.below ((zM _ w).alloc (zN _) _))).mono ?_
  rintro e w1 ⟨rfl,hb1⟩
  have hB1:qL w w1:=((zM _ w).alloc (zN _) _).trans (hb1.mono (by simp))
  have z1:w.heap.size<w1.heap.size:=by have:=hb1.size;simp at this;omega
  have R1:w1.heap[w.heap.size]? =some (.cells #[St [],St []] 82 (0,0)):=(hb1.block _ (by simp)).trans (zG w _)
  clear hb1
  go_wp2_with fail
  refine(HN.out _).mono ?_
  rintro e w2 ⟨rfl,hb2⟩
  have z2:w1.heap.size<w2.heap.size:=by have:=hb2.size;simp at this;omega
  have hB2:qL w w2:=(hB1.alloc hB1.size _).trans (hb2.mono (by simp;omega))
  have R2:w2.heap[w.heap.size]? =some (.cells #[St [],St []] 82 (0,0)):=(hb2.block _ (by simp;omega)).trans ((Below.heap_alloc _ _ _ (by omega)).trans R1)
  have P2:w2.heap[w1.heap.size]? =some (.cells #[.string sn,.string sd] 82 (0,0)):=(hb2.block _ (by simp)).trans (zG w1 _)
  have P20:w2.cell? ⟨w1.heap.size,0,none⟩=some (.string sn):=by simp[World.cell?,P2]
  have P21:w2.cell? ⟨w1.heap.size,1,none⟩=some (.string sd):=by simp[World.cell?,P2]
  have R20:w2.cell? ⟨w.heap.size,0,none⟩=some (St []):=by simp[World.cell?,R2]
  have R21:w2.cell? ⟨w.heap.size,1,none⟩=some (St []):=by simp[World.cell?,R2]
  have F20:w2.frozen? ⟨w.heap.size,0,none⟩=false:=by simp[World.frozen?,R2]
  have F21:w2.frozen? ⟨w.heap.size,1,none⟩=false:=by simp[World.frozen?,R2]
  have z3:w.heap.size<w2.heap.size:=by omega
  clear R1 hB1 hb2
  go_wp2_with fail
  refine(TP.out _).mono ?_
  rintro e w3 ⟨rfl,rfl⟩
  go_wp2_with fail
  refine bodyPost_ret (v:=.tuple #[.agg #[St [],St []],.int .i64 4]) (by simp[results,Tryz.results53,go_sem,R20,R21,z3]) rfl ⟨rfl,?_⟩
  repeat(first|exact hB2|exact zM _ _|refine Below.alloc ?_ (by simp[World.setCell]<;>omega) _|refine zao ?_ _|refine Below.setCell ?_ (by simp) _)
theorem ybk (s sn sd own g:ByteArray) (HC:Hid (qK 102 #[.string s] (.tuple #[.agg #[.string sn,.string sd],.bool true])))
 (HN:Hid (∀W:zA,qJ 51 #[.string s] W (.tuple #[.agg #[.int .i64 0,.int .i64 0],.bool false])))
 (TP:Hid (∀W:zA,zC zF 103 #[.string sn,.string ⟨#[45]⟩] W λe w'=>e=.returned (.string own)/\w'=W))
 (s1:¬(300:Int)<own.size) (s2:¬(300:Int)<sd.size) (s3:(sd.toList==[49])=false)
 (GC:Hid (qK 27 #[.string sn,.string sd] (.tuple #[.string g,.int .i64 0]))) (g1:(g.toList==[49])=false) (w:zA) (HW:Hid (Wd w)):
 qJ 53 #[.string s] w (.tuple #[.agg #[St [],St []],.int .i64 11]):=by
 go_enter Tryz.func53,Tryz.ntmps53
 go_wp2_with fail
 refine(HC.out _ (HW.out.below ((zM _ w).alloc (zN _) _))).mono ?_
 rintro e w1 ⟨rfl,hb1⟩
 have hB1:qL w w1:=((zM _ w).alloc (zN _) _).trans (hb1.mono (by simp))
 have z1:w.heap.size<w1.heap.size:=by have:=hb1.size;simp at this;omega
 have R1:w1.heap[w.heap.size]? =some (.cells #[St [],St []] 82 (0,0)):=(hb1.block _ (by simp)).trans (zG w _)
 clear hb1
 go_wp2_with fail
 refine(HN.out _).mono ?_
 rintro e w2 ⟨rfl,hb2⟩
 have z2:w1.heap.size<w2.heap.size:=by have:=hb2.size;simp at this;omega
 have hB2:qL w w2:=(hB1.alloc hB1.size _).trans (hb2.mono (by simp;omega))
 have R2:w2.heap[w.heap.size]? =some (.cells #[St [],St []] 82 (0,0)):=(hb2.block _ (by simp;omega)).trans ((Below.heap_alloc _ _ _ (by omega)).trans R1)
 have P2:w2.heap[w1.heap.size]? =some (.cells #[.string sn,.string sd] 82 (0,0)):=(hb2.block _ (by simp)).trans (zG w1 _)
 have P20:w2.cell? ⟨w1.heap.size,0,none⟩=some (.string sn):=by simp[World.cell?,P2]
 have P21:w2.cell? ⟨w1.heap.size,1,none⟩=some (.string sd):=by simp[World.cell?,P2]
 have R20:w2.cell? ⟨w.heap.size,0,none⟩=some (St []):=by simp[World.cell?,R2]
 have R21:w2.cell? ⟨w.heap.size,1,none⟩=some (St []):=by simp[World.cell?,R2]
 have F20:w2.frozen? ⟨w.heap.size,0,none⟩=false:=by simp[World.frozen?,R2]
 have F21:w2.frozen? ⟨w.heap.size,1,none⟩=false:=by simp[World.frozen?,R2]
 have z3:w.heap.size<w2.heap.size:=by omega
 clear R1 hB1 hb2
 go_wp2_with fail
 refine(TP.out _).mono ?_
 rintro e w3 ⟨rfl,rfl⟩
 go_wp2_with fail
 refine(GC.out _ (HW.out.below (hB2.alloc hB2.size _))).mono ?_
 rintro e w4 ⟨rfl,hb4⟩
 have hB4:qL w w4:=(hB2.alloc hB2.size _).trans (hb4.mono (by simp;omega))
 have R4:w4.heap[w.heap.size]? =some (.cells #[St [],St []] 82 (0,0)):=(hb4.block _ (by simp;omega)).trans ((Below.heap_alloc _ _ _ z3).trans R2)
 have R240:w4.cell? ⟨w.heap.size,0,none⟩=some (St []):=by simp[World.cell?,R4]
 have R241:w4.cell? ⟨w.heap.size,1,none⟩=some (St []):=by simp[World.cell?,R4]
 have F40:w4.frozen? ⟨w.heap.size,0,none⟩=false:=by simp[World.frozen?,R4]
 have F41:w4.frozen? ⟨w.heap.size,1,none⟩=false:=by simp[World.frozen?,R4]
 have z34:w.heap.size<w4.heap.size:=by have:=hb4.size;simp at this;omega
 clear P20 P21 R20 R21 F20 F21 P2 R2 z1 z2 hb4
 go_wp2_with fail
 refine bodyPost_ret (v:=.tuple #[.agg #[St [],St []],.int .i64 11]) (by simp[results,Tryz.results53,go_sem,R240,R241]) rfl ⟨rfl,?_⟩
 repeat(first|exact hB4|exact zM _ _|refine Below.alloc ?_ (by simp[World.setCell]<;>omega) _|refine zao ?_ _|refine Below.setCell ?_ (by simp) _)
theorem z9q {l:List UInt8} (hf:zzo l) (h:¬okS l):hasS l/\Nat.gcd (val (upS l)) (val (dnS l))≠1/\bare l=zD (val (upS l))++47::zD (val (dnS l))/\2<=val (dnS l)/\(l.head? =some 45->0<val (upS l)):=by
 have hs:hasS l:=Classical.byContradiction λk=>h ⟨hf.1,hf.2.1,λm=>absurd m k⟩
 obtain⟨d1,d2,d3⟩:=hf.2.2 hs
 have hg:Nat.gcd (val (upS l)) (val (dnS l))≠1:=λk=>h ⟨hf.1,hf.2.1,λ_=>⟨d1,d2,d3,k⟩⟩
 refine⟨hs,hg,?_,?_,λhm=>?_⟩
 ·have:=(z82 (b:=bare l) hs).1
  rw[zeh hf.1,zeh d1]
  exact this
 ·have e0:val (dnS l)≠0:=λk=>d2 (by rw[<-zeh d1,k];rw[zae (by omega)];rfl)
  have e1:val (dnS l)≠1:=λk=>d3 (by rw[<-zeh d1,k];exact(z15 1).2 rfl)
  omega
 ·refine Nat.pos_of_ne_zero λk=>hf.2.1 ⟨hm,?_⟩
  rw[<-zeh hf.1,k,zdj]
theorem yca (l:List UInt8) (hl:l.length<=1000) (hf:zzo l) (h:¬okS l) (w:zA):
 qJ 51 #[St l] w (.tuple #[.agg #[.int .i64 0,.int .i64 0],.bool false]):=by
 obtain⟨hs,hg,hb,hd,hn⟩:=z9q hf h
 have hlen:(zD (val (upS l))).length+1+(zD (val (dnS l))).length<=1000:=by
  have h2:(bare l).length<=l.length:=by unfold bare;split<;>simp
  rw[hb] at h2
  simp at h2;omega
 generalize val (upS l)=n at*
 generalize val (dnS l)=d at*
 rcases zhb l with⟨h1,h2⟩|⟨h1,h2⟩
 ·rw[h2,hb]
  have h0:=hn h1
  by_cases c:(zD n).length<=8
  ·by_cases c2:(zD d).length<=8
   ·exact zzp n d h0 c c2 hd hg w
   ·exact zj1 n d h0 c (by omega) (by omega) w
  ·exact zmw n _ (zf3 n _) (by omega) (by omega) (by simp;omega) w
 ·rw[h2,hb]
  by_cases c:(zD n).length<=8
  ·by_cases c2:(zD d).length<=8
   ·exact z9d n d c c2 hd hg w
   ·exact zlz n d c (by omega) (by omega) w
  ·exact zp0 n _ (zf3 n _) (by omega) (by omega) (by simp;omega) w
theorem yc5 {l:List UInt8} (hf:zzo l):∃z:Int,nuS l=itoa z/\z.natAbs=val (upS l):=by
 rcases zhb l with⟨h1,h2⟩|⟨h1,h2⟩
 ·have e:nuS l=45::upS l:=by
   unfold upS
   conv=>lhs;rw[h2]
   exact yab _
  have h0:0<val (upS l):=by
   refine Nat.pos_of_ne_zero λk=>hf.2.1 ⟨h1,?_⟩
   rw[<-zeh hf.1,k,zdj]
  refine⟨-(val (upS l):Int),?_,by omega⟩
  rw[e]
  rcases zbg (-(val (upS l):Int)) with⟨k,_⟩|⟨_,k⟩
  ·omega
  ·rw[k]
   congr 1
   rw[show(-(val (upS l):Int)).natAbs=val (upS l) by omega,zeh hf.1]
 ·refine⟨(val (upS l):Int),?_,by omega⟩
  have e:nuS l=upS l:=by unfold upS nuS;rw[<-h2]
  rw[e,Str.zad,zeh hf.1]
theorem yct (l:List UInt8) (hl:l.length<=1000) (h:¬okS l) (w:zA) (hw:Wd w):
 zC zF 53 #[St l] w λe w'=>∃r:Int,e=.returned (.tuple #[.agg #[St [],St []],.int .i64 r])/\r≠0/\zB w.heap.size w w':=by
 by_cases hf:zzo l
 ·obtain⟨hs,hg,hb,hd,_⟩:=z9q hf h
  obtain⟨z,hz,hza⟩:=yc5 hf
  have HC:Hid (qK 102 #[.string ⟨l.toArray⟩] (.tuple #[.agg #[.string ⟨(nuS l).toArray⟩,.string ⟨(dnS l).toArray⟩],.bool true])):=hid λW hW=>(ya7 l hl W hW).mono λe w' ⟨h1,hb⟩=>by
   rcases h1 with⟨_,⟨_,e⟩|⟨k,_⟩⟩|⟨k,_⟩
   ·exact⟨e,hb⟩
   ·exact absurd hs k
   ·exact absurd hf k
  have HN:Hid (∀W:zA,qJ 51 #[.string ⟨l.toArray⟩] W (.tuple #[.agg #[.int .i64 0,.int .i64 0],.bool false])):=hid λW=>yca l hl hf h W
  have TP:Hid (∀W:zA,zC zF 103 #[.string ⟨(nuS l).toArray⟩,.string ⟨#[45]⟩] W λe w'=>e=.returned (.string ⟨(upS l).toArray⟩)/\w'=W):=hid λW=>by
   have:=Tryz.strings_TrimPrefix ⟨(nuS l).toArray⟩ ⟨#[45]⟩ W
   rw[show(⟨(nuS l).toArray⟩:ByteArray).data.toList=nuS l from rfl,show(⟨#[45]⟩:ByteArray).data.toList=[45] from rfl,(ybj l).1] at this
   exact this
  have sz:∀k:List UInt8,(⟨k.toArray⟩:ByteArray).size=k.length:=λk=>by show k.toArray.size=_;simp
  obtain⟨d1,d2,d3⟩:=hf.2.2 hs
  show zC _ _ #[.string ⟨l.toArray⟩] _ _
  by_cases c1:(upS l).length<=300
  ·by_cases c2:(dnS l).length<=300
   ·refine(ybk _ _ _ _ ⟨(itoa (Int.gcd z (val (dnS l):Int):Int)).toArray⟩ HC HN TP (by rw[sz];omega) (by rw[sz];omega) (by rw[zfo rfl];exact beq_eq_false_iff_ne.2 d3) (hid λW hW=>?_) ?_ w (hid hw)).mono ?_
    ·have:=ztw z (val (dnS l):Int) (by unfold digs;rw[hza,zeh hf.1];exact c1) (by unfold digs;rw[Int.natAbs_natCast,zeh d1];exact c2) W hW
     rw[<-hz,Str.zad (val (dnS l)),zeh d1] at this
     exact this
    ·rw[zfo rfl,Str.zad]
     refine beq_eq_false_iff_ne.2 λk=>hg ?_
     have:=(z15 _).1 k
     rw[<-this]
     unfold Int.gcd
     rw[hza,Int.natAbs_natCast]
    ·rintro e w' ⟨rfl,hb⟩
     exact⟨11,rfl,by decide,hb⟩
   ·refine(zyd _ _ _ _ HC HN TP (.inr ⟨by rw[sz];omega,by rw[sz];omega⟩) w (hid hw)).mono ?_
    rintro e w' ⟨rfl,hb⟩
    exact⟨4,rfl,by decide,hb⟩
  ·refine(zyd _ _ _ _ HC HN TP (.inl (by rw[sz];omega)) w (hid hw)).mono ?_
   rintro e w' ⟨rfl,hb⟩
   exact⟨4,rfl,by decide,hb⟩
 ·refine(yao ⟨l.toArray⟩ (hid λW hW=>(ya7 l hl W hW).mono λe w' ⟨h1,hb⟩=>?_) w (hid hw)).mono ?_
  ·rcases h1 with⟨k,_⟩|⟨_,e⟩
   ·exact absurd k hf
   ·exact⟨e,hb⟩
  ·rintro e w' ⟨rfl,hb⟩
   exact⟨11,rfl,by decide,hb⟩
theorem ycu (s:ByteArray) (P:Int->Prop) (w:zA) (HC:Hid (zC zF 53 #[.string s] w λe w'=>∃a b r,e=.returned (.tuple #[.agg #[St a,St b],.int .i64 r])/\P r/\zB w.heap.size w w')):
 zC zF 80 #[.string s] w λe w'=>∃r:Int,e=.returned (.int .i64 r)/\P r/\zB w.heap.size w w':=by
 go_enter Tryz.func80,Tryz.ntmps80
 go_wp2_with fail
 refine HC.out.mono ?_
 rintro e w1 ⟨a,b,r,rfl,hr,hb1⟩
 have HR:=hid hr
 clear hr HC
 go_wp2_with fail
 go_ret
 exact⟨r,rfl,HR.out,hb1.alloc hb1.size _⟩
theorem z83 (l:List UInt8) (hl:l.length<=1000) (w:zA) (hw:Wd w):
 zC zF 80 #[St l] w λe w'=>∃r:Int,e=.returned (.int .i64 r)/\(r=0↔∃q,l=numS q/\okQ q)/\zB w.heap.size w w':=by
 refine ycu ⟨l.toArray⟩ (λr=>r=0↔∃q,l=numS q/\okQ q) w (hid ?_)
 by_cases h:okS l
 ·obtain⟨q,rfl⟩:=(zlq l).1 h
  by_cases hq:okQ q
  ·refine(zek q hq w hw).mono ?_
   rintro e w' ⟨rfl,hb⟩
   exact⟨_,_,0,rfl,⟨λ_=>⟨q,rfl,hq⟩,λ_=>rfl⟩,hb⟩
  ·have h1:=za7 q.num
   have hu:(numS q).length=(itoa q.num).length+(if q.den=1 then 0 else 1+(zD q.den).length):=by
    unfold numS
    by_cases c:q.den=1
    ·rw[if_pos c,if_pos c];simp
    ·rw[if_neg c,if_neg c];simp;omega
   have hd:digs q.num<=(itoa q.num).length:=by
    rcases zbg q.num with⟨_,e⟩|⟨_,e⟩
    ·rw[e];exact zN _
    ·rw[e];exact Nat.le_succ _
   have hdn:(zD q.den).length<=1000:=by
    by_cases c:q.den=1
    ·rw[c,zae (by omega)];simp
    ·rw[if_neg c] at hu;omega
   refine(ybt q hq (by omega) (by omega) w hw).mono ?_
   rintro e w' ⟨rfl,hb⟩
   refine⟨_,_,4,rfl,⟨λk=>(by cases k),λ⟨q',e,hq'⟩=>?_⟩,hb⟩
   rw[zh0 e] at hq
   exact absurd hq' hq
 ·refine(yct l hl h w hw).mono ?_
  rintro e w' ⟨r,rfl,hr,hb⟩
  exact⟨_,_,r,rfl,⟨λk=>absurd k hr,λ⟨q,e,_⟩=>absurd ((zlq l).2 ⟨q,e⟩) h⟩,hb⟩
end
section
open Go.RowKit Go.Shelf Lib Str Limb Geo
attribute [local go_sem] Oper.semAt_some
def zlw (x y:List UInt8):Prop:=∃p:Pt,x=numS p.x/\y=numS p.y/\szP p 36
theorem z84 (x y:List UInt8) (CX:Hid (∀W:zA,Wd W->zC zF 80 #[St x] W λe w'=>∃r:Int,e=.returned (.int .i64 r)/\r≠0/\zB W.heap.size W w')) (w:zA) (HW:Hid (Wd w)):
 zC zF 31 #[.agg #[St x,St y]] w λe w'=>∃r:Int,e=.returned (.int .i64 r)/\r≠0/\zB w.heap.size w w':=by
 have hinit:PtS w x y (w.alloc (.cells #[St x,St y] 25)):=⟨(zM _ w).alloc (zN _) _,by simp,zG w _⟩
 obtain⟨W1,hW1⟩:∃W1,W1=w.alloc (.cells #[St x,St y] 25):=⟨_,rfl⟩
 rw[<-hW1] at hinit
 have i0:=hinit.c0;have i1:=hinit.c1
 rw[hW1] at i0 i1
 have HI:=hid hinit;clear hinit
 have HW1:=hid hW1;clear hW1
 have x0:∀w:zA,(Instr.index 116 (.agg #[St x,St y]) (.int .i64 0)).run zF w=.ok (St x) w:=λ_=>by kernel_rfl
 go_enter Tryz.func31,Tryz.ntmps31
 go_wp2_with fail
 rw[<-HW1.out]
 clear i0 i1
 refine wp_loop_rounds 3 ?_
 rw[rounds_succ]
 go_wp2_with fail
 refine(CX.out _ (HW.out.below HI.out.bel)).mono ?_
 rintro e W2 ⟨r,rfl,hr,hb2⟩
 have hr1:(r==0)=false:=beq_eq_false_iff_ne.2 hr
 have hr2:(r !=0)=true:=by rw[bne,hr1];rfl
 have H2:=hid (⟨(HI.out.next hb2).bel,hr⟩:_/\_);clear HI hb2 hr
 go_wp2_with fail
 go_ret
 exact⟨r,rfl,H2.out.2,H2.out.1⟩
theorem z86 (x y:List UInt8)
 (CX:Hid (qK 80 #[St x] (.int .i64 0)))
 (CY:Hid (∀W:zA,Wd W->zC zF 80 #[St y] W λe w'=>∃r:Int,e=.returned (.int .i64 r)/\r≠0/\zB W.heap.size W w')) (w:zA) (HW:Hid (Wd w)):
 zC zF 31 #[.agg #[St x,St y]] w λe w'=>∃r:Int,e=.returned (.int .i64 r)/\r≠0/\zB w.heap.size w w':=by
 have hinit:PtS w x y (w.alloc (.cells #[St x,St y] 25)):=⟨(zM _ w).alloc (zN _) _,by simp,zG w _⟩
 obtain⟨W1,hW1⟩:∃W1,W1=w.alloc (.cells #[St x,St y] 25):=⟨_,rfl⟩
 rw[<-hW1] at hinit
 have i0:=hinit.c0;have i1:=hinit.c1
 rw[hW1] at i0 i1
 have HI:=hid hinit;clear hinit
 have HW1:=hid hW1;clear hW1
 have x0:∀w:zA,(Instr.index 116 (.agg #[St x,St y]) (.int .i64 0)).run zF w=.ok (St x) w:=λ_=>by kernel_rfl
 have x1:∀w:zA,(Instr.index 116 (.agg #[St x,St y]) (.int .i64 1)).run zF w=.ok (St y) w:=λ_=>by kernel_rfl
 go_enter Tryz.func31,Tryz.ntmps31
 go_wp2_with fail
 rw[<-HW1.out]
 clear i0 i1
 refine wp_loop_rounds 3 ?_
 rw[rounds_succ]
 go_wp2_with fail
 refine(CX.out _ (HW.out.below HI.out.bel)).mono ?_
 rintro e W2 ⟨rfl,hb2⟩
 have H2:=hid (HI.out.next hb2);clear HI hb2
 go_wp2_with fail
 rw[rounds_succ]
 go_wp2_with fail
 refine(CY.out _ (HW.out.below H2.out.bel)).mono ?_
 rintro e W3 ⟨r,rfl,hr,hb3⟩
 have hr1:(r==0)=false:=beq_eq_false_iff_ne.2 hr
 have hr2:(r !=0)=true:=by rw[bne,hr1];rfl
 have H3:=hid (⟨(H2.out.next hb3).bel,hr⟩:_/\_);clear H2 hb3 hr
 go_wp2_with fail
 go_ret
 exact⟨r,rfl,H3.out.2,H3.out.1⟩
theorem ya8 {q:Rat} (h:numE q=0):sz q 36:=by
 unfold numE at h
 by_cases c:digs q.num<=36/\(zD q.den).length<=36
 ·exact⟨(za3 _ _ (by omega)).1 c.1,(zaf _ _ (by omega)).1 c.2⟩
 ·rw[if_neg c] at h;cases h
theorem z11 (q:Rat):0<=numE q:=by unfold numE;split<;>omega
theorem zkd (x y:List UInt8) (hx:x.length<=1000) (hy:y.length<=1000) (w:zA) (hw:Wd w):
 zC zF 31 #[.agg #[St x,St y]] w λe w'=>∃r:Int,e=.returned (.int .i64 r)/\(r=0↔zlw x y)/\zB w.heap.size w w':=by
 by_cases h1:∃q,x=numS q/\okQ q
 ·obtain⟨a,rfl,ha⟩:=h1
  by_cases h2:∃q,y=numS q/\okQ q
  ·obtain⟨b,rfl,hb⟩:=h2
   refine(zp6 ⟨a,b⟩ ha hb w hw).mono ?_
   rintro e w' ⟨rfl,hB⟩
   refine⟨_,rfl,⟨λk=>?_,λ⟨p,e1,e2,hz⟩=>?_⟩,hB⟩
   ·have n1:=z11 a;have n2:=z11 b
    have k:max (numE a) (numE b)=0:=k
    exact⟨⟨a,b⟩,rfl,rfl,ya8 (show numE a=0 by omega),ya8 (show numE b=0 by omega)⟩
   ·have e1:a=p.x:=zh0 e1
    have e2:b=p.y:=zh0 e2
    show max (numE a) (numE b)=0
    rw[e1,e2,zt2 hz.1,zt2 hz.2];rfl
  ·refine(z86 _ y (hid λW hW=>zfj a ha W hW) (hid λW hW=>(z83 y hy W hW).mono λe w' ⟨r,e1,e2,hb⟩=>⟨r,e1,λk=>h2 (e2.1 k),hb⟩) w (hid hw)).mono ?_
   rintro e w' ⟨r,rfl,hr,hb⟩
   refine⟨r,rfl,⟨λk=>absurd k hr,λ⟨p,_,e2,hz⟩=>absurd ⟨p.y,e2,zw2 hz.2⟩ h2⟩,hb⟩
 ·refine(z84 x y (hid λW hW=>(z83 x hx W hW).mono λe w' ⟨r,e1,e2,hb⟩=>⟨r,e1,λk=>h1 (e2.1 k),hb⟩) w (hid hw)).mono ?_
  rintro e w' ⟨r,rfl,hr,hb⟩
  refine⟨r,rfl,⟨λk=>absurd k hr,λ⟨p,e1,_,hz⟩=>absurd ⟨p.x,e1,zw2 hz.1⟩ h1⟩,hb⟩
end
section
open Go
variable {F:Fence} {n:Nat} {P:Program} {ops:Array Oper} {β:Type}
def zho (F:Fence) (n:Nat) (P:Program) (C:Value->zA->Prop):Result Next->Prop
 | .ok (.value u) w'=>C u w'
 | .ok .skip w'=>C undef w'
 | .ok (.enter f args) w'=>(F.depth.isSome=true->1<=n)/\CallsIn F (n-1) P f args w' (λe w''=>∃v,e=.returned v/\C v w'')
 | .ok (.round l f tmps assign body) w'=>(F.depth.isSome=true->1<=n)/\RoundIn F (n-1) P l f tmps assign body w' (λe w''=>∃v,e=.returned v/\C v w'')
 |_=>False
theorem zw5 {o:Oper} {a:Act} {w:zA} {C:Value->zA->Prop} {K:Act->zA->Prop} {Q:Exit->Act->zA->Prop} (hF:∀f,F.fn f) (hro:F.round=none) (hK:∀v w',C v w'->K (a.put o.dst v) w') (h:zho F n P C ((execOp a.eval o).run P w)):o.wpIn F n P a w K Q:=by
 refine⟨λf _=>hF f,?_⟩
 rw[hro,Oper.semAt_none]
 generalize (execOp a.eval o).run P w=r at*
 cases r with
 |ok x w'=>
  cases x<;>simp only[zho] at h<;>simp only[Oper.uponIn]
  ·exact hK _ _ h
  ·exact hK _ _ h
  ·exact⟨h.1,CallsIn.mono h.2 λe w'' ⟨v,he,hc⟩=>by subst he;exact hK _ _ hc⟩
  ·exact⟨h.1,RoundIn.mono h.2 λe w'' ⟨v,he,hc⟩=>by subst he;exact hK _ _ hc⟩
 |halt x w'=>simp only[zho] at h
def z1t (F:Fence) (n:Nat) (P:Program) (ops:Array Oper) (vs:β->Nat->Value) (C:β->Array Bool->zA->Prop) (i:Nat) (o:Oper) (a:Act) (b:β):Prop:=
 ∀L w,AcAt ops i L->C b L w->if Region.wanted o (yielded ops a.tmps) then zho F n P (zgx vs C i L b) ((execOp a.eval o).run P w) else zgx vs C i L b undef w
theorem zs8 (hF:∀f,F.fn f) (hro:F.round=none) {Q:Exit->Act->zA->Prop} {C:β->Array Bool->zA->Prop} (hB:(acB ops&&zfd ops)=true) (vs:β->Nat->Value) (a:Act)
 (step:∀b i o,ops[i]? =some o->z1t F n P ops vs C i o (zax ops (vs b) a (zbw ops.size i) ops.size) b)
 (hend:∀b L w,(∀i,i<ops.size->L.getD i false=true)->C b L w->Q .normal (zax ops (vs b) a (zbw ops.size ops.size) ops.size) w):
 ∀(fuel:Nat) (L:Array Bool) (w:zA) (b:β),L.size=ops.size->zoe ops L->((List.range ops.size).filter λi=>!L.getD i false).length<=fuel->C b L w->wpAnyIn F n P .any ops Q fuel L (zax ops (vs b) a L ops.size) w:=by
 obtain⟨hsel,hdist,hlook,hback⟩:=zmq hB
 have hq:∀b L w,(∀i,i<ops.size->L.getD i false=true)->C b L w->Q .normal (zax ops (vs b) a L ops.size) w:=by
  intro b L w hall hC
  have e:zax ops (vs b) a L ops.size=zax ops (vs b) a (zbw ops.size ops.size) ops.size:=by
   have:∀k,k<=ops.size->zax ops (vs b) a L k=zax ops (vs b) a (zbw ops.size ops.size) k:=by
    intro k
    induction k with
    |zero=>intro _;rfl
    |succ k ih=>
     intro hk
     simp only[zax]
     rw[ih (by omega),hall k (by omega),zd5]
     simp[show k<ops.size by omega]
   exact this _ (zN _)
  rw[e];exact hend b L w hall hC
 have hready:∀L,L.size=ops.size->Region.ready .any ops L=[]->∀i,i<ops.size->L.getD i false=true:=by
  intro L hsz h0 i
  induction i using Nat.strongRecOn with
  |_ i ih=>
   intro hi
   cases hl:L.getD i false with
   |true=>rfl
   |false=>
    have hm:i∈Region.ready .any ops L:=by
     refine mem_ready.2 ⟨getD_in (by omega) hl,ops[i],by simp[hi],λe he hb=>?_⟩
     have hlt:=hback i (ops[i]) (show ops[i]? =some (ops[i]) from Array.getElem?_eq_getElem hi) e he hb
     exact ih e.on hlt (Nat.lt_trans hlt hi)
    rw[h0] at hm;cases hm
 intro fuel
 induction fuel with
 |zero=>
  intro L w b hsz hcl hcount hC
  have hall:∀i,i<ops.size->L.getD i false=true:=by
   intro i hi
   cases hl:L.getD i false with
   |true=>rfl
   |false=>
    have:i∈(List.range ops.size).filter λi=>!L.getD i false:=List.mem_filter.2 ⟨List.mem_range.2 hi,by rw[hl];rfl⟩
    rw[List.length_eq_zero_iff.1 (Nat.le_zero.1 hcount)] at this;cases this
  refine⟨?_,hq b L w hall hC⟩
  apply List.eq_nil_iff_forall_not_mem.2
  intro i hi
  obtain⟨h1,o,ho,_⟩:=mem_ready.1 hi
  have:=hall i (Array.getElem?_eq_some_iff.1 ho).1
  rw[getD_both h1] at this;cases this
 |succ fuel ih=>
  intro L w b hsz hcl hcount hC
  refine⟨λh0=>hq b L w (hready L hsz h0) hC,λi hi=>?_⟩
  obtain⟨h1,o,ho,hall⟩:=mem_ready.1 hi
  have hin:i<ops.size:=(Array.getElem?_eq_some_iff.1 ho).1
  have hLi:=getD_both h1
  have hdone:∀j,Region.waitsFor .any ops i j=true->L.getD j false=true:=by
   intro j hw
   obtain⟨o',ho',e,he,hb,rfl⟩:=Region.waitsFor_spec hw
   have:o'=o:=Option.some.inj (ho'.symm.trans ho)
   subst this
   exact hall e he hb
  have hopen:∀j,Region.waitsFor .any ops j i=true->L.getD j false=false:=by
   intro j hw
   cases hl:L.getD j false with
   |false=>rfl
   |true=>rw[hcl j i hl hw] at hLi;cases hLi
  have hat:AcAt ops i L:=⟨hsz,hLi,hdone,hcl⟩
  have hst:=step b i o ho L w hat hC
  have hset:=λb'=>zic (vs b') a L i (by omega) hLi (λj d hne hd hj=>by
   rcases Nat.lt_or_ge j ops.size with hjn|hjn
   ·exact hdist i j d hin hjn (Ne.symm hne) hj hd
   ·simp[zcr,Array.getElem?_eq_none hjn] at hj) ops.size
  simp only[if_pos hin] at hset
  have hsame:=zit (ops:=ops) (a:=zax ops (vs b) a L ops.size) (b:=zax ops (vs b) a (zbw ops.size i) ops.size) (o:=o) (λcs b=>Region.noSelect_spec hsel i o cs b ho) (λt ht=>by
   refine zib (vs b) a L _ t ops.size λj hj hd=>?_
   rw[zd5]
   by_cases hji:j=i
   ·subst hji;rw[hLi];simp
   ·have:=hlook i j t hin hj (Ne.symm hji) hd (by simpa [zi8,ho] using ht)
    rcases this with⟨h2,h3⟩|⟨h2,h3⟩
    ·rw[hdone j h3];simp[hj,h2]
    ·rw[hopen j h3];simp;omega)
  have hnext:∀v w',zgx vs C i L b v w'->wpAnyIn F n P .any ops Q fuel (L.setIfInBounds i true) ((zax ops (vs b) a L ops.size).put o.dst v) w':=by
   rintro v w' ⟨b',hagree,rfl,hC'⟩
   have hd:o.dst=zcr ops i:=by simp[zcr,ho]
   rw[hd,ziw (vs b) (vs b') a L (λj hj=>(hagree j hj).symm) ops.size,<-hset b']
   refine ih _ w' b' (by simpa using hsz) ?_ ?_ hC'
   ·intro x y hx hw
    rw[zdp L i _ (by omega)] at hx⊢
    split
    ·rfl
    ·split at hx
     ·rename_i h;subst h;exact hdone y hw
     ·exact hcl x y hx hw
   ·have e:((List.range ops.size).filter λx=>!(L.setIfInBounds i true).getD x false)=((List.range ops.size).filter λx=>!L.getD x false).filter λx=>decide (x≠i):=by
     rw[List.filter_filter]
     refine List.filter_congr λx _=>?_
     rw[zdp L i x (by omega)]
     by_cases h:i=x
     ·subst h;simp
     ·simp[h,Ne.symm h]
    rw[e]
    have:=(List.length_filter_lt_length_iff_exists (l:=(List.range ops.size).filter λx=>!L.getD x false) (p:=λx=>decide (x≠i))).2 ⟨i,List.mem_filter.2 ⟨List.mem_range.2 hin,by rw[hLi];rfl⟩,by simp⟩
    omega
  unfold wpOpIn
  simp only[ho]
  rw[hsame.2]
  by_cases hw:Region.wanted o (yielded ops (zax ops (vs b) a (zbw ops.size i) ops.size).tmps)=true
  ·rw[if_pos hw] at hst⊢
   rw[<-hsame.1] at hst
   exact zw5 hF hro hnext hst
  ·rw[if_neg hw] at hst⊢
   exact⟨λf _=>hF f,hnext _ _ hst⟩
def zt3 (F:Fence) (n:Nat) (P:Program) (ops:Array Oper) (vs:β->Nat->Value) (C:β->(Nat->Bool)->zA->Prop) (i:Nat) (o:Oper) (a:Act) (b:β):Prop:=
 ∀f w,AcF ops i f->C b f w->
  if Region.wanted o (yielded ops a.tmps) then zho F n P (zhn vs C i f b) ((execOp a.eval o).run P w) else zhn vs C i f b undef w
def AcLN (F:Fence) (n:Nat) (P:Program) (ops:Array Oper) (vs:β->Nat->Value) (C:β->(Nat->Bool)->zA->Prop) (K:Act->zA->Prop) (b:β):Nat->List Oper->Act->Prop
 |_,[],a=>∀f w,(∀i,i<ops.size->f i=true)->C b f w->K a w
 |k,o::rest,a=>zt3 F n P ops vs C k o a b/\AcLN F n P ops vs C K b (k+1) rest (a.put o.dst (vs b k))
section
variable {vs:β->Nat->Value} {C:β->(Nat->Bool)->zA->Prop} {K:Act->zA->Prop} {k:Nat} {o:Oper} {rest:List Oper} {a:Act} {b:β}
theorem z1u (h:∀f w,(∀i,i<ops.size->f i=true)->C b f w->K a w):AcLN F n P ops vs C K b k [] a:=h
theorem zct (v:Value) (hv:vs b k=v) (hw:Region.wanted o (yielded ops a.tmps)=true)
 (hset:∀f w,C b f w->C b (λj=>if k=j then true else f j) w)
 (hy:∀f w,AcF ops k f->C b f w->(execOp a.eval o).run P w=.ok (.value v) w)
 (h:AcLN F n P ops vs C K b (k+1) rest (a.put o.dst v)):AcLN F n P ops vs C K b k (o::rest) a:=by
 subst hv
 refine⟨λf w hf hC=>?_,h⟩
 rw[if_pos hw,hy f w hf hC]
 exact⟨b,λ_ _=>rfl,rfl,hset f w hC⟩
theorem z1v (v:Value) (hv:vs b k=v) (hw:Region.wanted o (yielded ops a.tmps)=true)
 (hy:∀f w,AcF ops k f->C b f w->∀C':Value->zA->Prop,(∀b' w',(∀j,f j=true->vs b' j=vs b j)->C b' (λj=>if k=j then true else f j) w'->C' (vs b' k) w')->zho F n P C' ((execOp a.eval o).run P w))
 (h:AcLN F n P ops vs C K b (k+1) rest (a.put o.dst v)):AcLN F n P ops vs C K b k (o::rest) a:=by
 subst hv
 refine⟨λf w hf hC=>?_,h⟩
 rw[if_pos hw]
 exact hy f w hf hC _ λb' w' hj h'=>⟨b',hj,rfl,h'⟩
end
theorem zk8 {vs:β->Nat->Value} {C:β->(Nat->Bool)->zA->Prop} {K:Act->zA->Prop} {b:β}:∀(l:List Oper) (k:Nat) (a:Act),AcLN F n P ops vs C K b k l a->
 (∀i o,l[i]? =some o->zt3 F n P ops vs C (k+i) o (zbq (vs b) k l a i) b)/\(∀f w,(∀i,i<ops.size->f i=true)->C b f w->K (zbq (vs b) k l a l.length) w)
 |[],k,a,h=>⟨λi o h=>by simp at h,h⟩
 |o::l,k,a,⟨hv,h⟩=>by
  obtain⟨h1,h2⟩:=zk8 l (k+1) _ h
  refine⟨λi o' ho=>?_,?_⟩
  ·cases i with
   |zero=>
    obtain rfl:o=o':=by simpa using ho
    simpa [zbq] using hv
   |succ i=>
    have:=h1 i o' (by simpa using ho)
    simp only[zbq]
    rw[show k+(i+1)=k+1+i by omega]
    exact this
  ·simp only[zbq,List.length_cons]
   exact h2
theorem zrk (hF:∀f,F.fn f) (hro:F.round=none) {K:Act->zA->Prop} {Q:Exit->Act->zA->Prop} (hQ:∀a w,K a w->Q .normal a w) {l:List Oper} (vs:β->Nat->Value) (C:β->(Nat->Bool)->zA->Prop) (hB:(acB l.toArray&&zfd l.toArray)=true) {a:Act} {w:zA} (b0:β) (hC:C b0 (λ_=>false) w) (h:∀b,AcLN F n P l.toArray vs C K b 0 l a):
 wpAnyIn F n P .any l.toArray Q l.toArray.size (Array.replicate l.toArray.size false) a w:=by
 have e0:zax l.toArray (vs b0) a (Array.replicate l.toArray.size false) l.toArray.size=a:=by
  have:∀k,zax l.toArray (vs b0) a (Array.replicate l.toArray.size false) k=a:=by
   intro k
   induction k with
   |zero=>rfl
   |succ k ih=>
    have:(Array.replicate l.toArray.size false).getD k false=false:=by
     simp only[Array.getD];split<;>simp
    simp only[zax,this,Bool.false_eq_true,if_false];exact ih
  exact this _
 have:=zs8 (n:=n) hF hro (P:=P) (ops:=l.toArray) (Q:=Q) (C:=λb L w=>C b (λj=>L.getD j false) w) hB vs a ?_ ?_ l.toArray.size (Array.replicate l.toArray.size false) w b0 (by simp) ?_ ?_ ?_
 ·rw[e0] at this;exact this
 ·intro b i o ho L w hat hc
  have h1:=(zk8 l 0 a (h b)).1
  have hi:i<l.length:=by
   have:=(Array.getElem?_eq_some_iff.1 ho).1
   simpa using this
  have hst:=h1 i o (by simpa using ho) (λj=>L.getD j false) w (by rw[Nat.zero_add];exact⟨hat.self,hat.done,hat.closed⟩) hc
  have ea:zax l.toArray (vs b) a (zbw l.toArray.size i) l.toArray.size=zbq (vs b) 0 l a i:=by
   have:=zdg (vs b) l a i (by omega) l.length (zN _)
   rw[Nat.min_eq_left (by omega)] at this
   simpa using this
  have es:(λj=>(L.setIfInBounds i true).getD j false)=(λj=>if i=j then true else L.getD j false):=by
   funext j
   exact zdp L i j (by rw[hat.size];simpa using hi)
  rw[Nat.zero_add] at hst
  rw[ea]
  unfold zhn at hst
  unfold zgx
  simp only[es]
  exact hst
 ·intro b L w hall hc
  have h2:=(zk8 l 0 a (h b)).2
  have ea:zax l.toArray (vs b) a (zbw l.toArray.size l.toArray.size) l.toArray.size=zbq (vs b) 0 l a l.length:=by
   have:=zdg (vs b) l a l.length (zN _) l.length (zN _)
   rw[Nat.min_self] at this
   simpa using this
  rw[ea]
  exact hQ _ _ (h2 _ w hall hc)
 ·intro i j hi
  have:(Array.replicate l.toArray.size false).getD i false=false:=by simp only[Array.getD];split<;>simp
  rw[this] at hi;cases hi
 ·refine Nat.le_trans (List.length_filter_le _ _) (by simp)
 ·have:(λj=>(Array.replicate l.toArray.size false).getD j false)= λ_=>false:=by
   funext j
   simp only[Array.getD];split<;>simp
  simpa only[this] using hC
theorem zns {id:Nat} {Q:Exit->Act->zA->Prop} {a:Act} {w:zA} {l:List Oper} (hF:∀f,F.fn f) (hro:F.round=none) (vs:β->Nat->Value) (C:β->(Nat->Bool)->zA->Prop) (hm:P.follows .mixedOrders=true) (hB:(acB l.toArray&&zfd l.toArray)=true) (b0:β) (hC:C b0 (λ_=>false) {w with drawn:=w.drawn+1})
 (h:∀b,AcLN F n P l.toArray vs C (Q .normal) b 0 l a):(Code.region id l.toArray true).wpIn F n P Q a w:=
 wpIn_region_any hm (zrk hF hro (λ_ _ h=>h) vs C hB b0 hC h)
end
section
open Go.RowKit Go.Shelf Lib Str Limb
attribute [local go_sem] Oper.semAt_some
theorem zfr (v:Value) (w:zA) (p:Option Addr) (n cap:Nat) (hv:v=.slice p n cap):
 zC zF 32 #[v] w λe w'=>e=.returned (.func (.func 82) #[] #[.pointer (some ⟨w.heap.size,0,none⟩)])/\w.alloc (.cells #[v] 22)=w':=by
 subst hv
 go_enter Tryz.func32,Tryz.ntmps32
 go_wp2
 go_ret
 exact⟨rfl,rfl⟩
theorem zai {W W':zA} (h:qL W W') {b o:Nat} {v:Value} (hc:W.cell? ⟨b,o,none⟩=some v):W'.cell? ⟨b,o,none⟩=some v:=(zac h).cell hc
def ptOf (l:List (List UInt8×List UInt8)) (i:Nat):List UInt8×List UInt8:=l[i]?.getD ([],[])
def zls (Bs:Nat) (p:Option Addr) (cap:Nat) (l:List (List UInt8×List UInt8)) (W:zA):Prop:=
 W.cell? ⟨Bs,0,none⟩=some (.slice p l.length cap)/\∀i,i<l.length->∃b off,p=some ⟨b,off,none⟩/\W.cell? ⟨b,off+i*2,none⟩=some (St (ptOf l i).1)/\W.cell? ⟨b,off+i*2+1,none⟩=some (St (ptOf l i).2)
def zk9 (l:List (List UInt8×List UInt8)) (k:Nat):Value:=
 .agg #[St (ptOf l k).1,St (ptOf l k).2,St (ptOf l ((k+1)%l.length)).1,St (ptOf l ((k+1)%l.length)).2]
theorem zgi (n:Nat) (hn:1<=n) (Bs:Nat) (l:List (List UInt8×List UInt8)) (hlen:l.length<=5000) (Rd:zA->Prop) (p:Option Addr) (cap:Nat) (hRd:∀W,Rd W->zls Bs p cap l W):
 IterC Fence.wide n zF 82 #[.pointer (some ⟨Bs,0,none⟩)] Rd (λk args=>args= #[I k,zk9 l k]) l.length:=by
 intro lp J Jx W hJr hJb hY h0
 refine callsIn_of_wp Tryz.func82 rfl trivial ?_ rfl
 simp only[Tryz.ntmps82,List.size_toArray,List.length_cons,List.length_nil,Nat.reduceAdd,Nat.reduceSub,Array.replicate_succ,Array.replicate_zero,List.push_toArray,List.append_toArray,List.nil_append,List.cons_append]
 obtain⟨hb,hcs⟩:=hRd W (hJr 0 W h0)
 obtain⟨N,hN⟩:∃N,N=l.length:=⟨_,rfl⟩
 have HRd:=hid λk W h=>hRd W (hJr k W h);clear hRd hJr
 have HY:=hid hY;clear hY
 have HJB:=hid hJb;clear hJb
 rw[<-hN] at hb hlen HY⊢
 have HN:=hid hN;clear hN hcs
 gi_wp2
 gi_loopw [7] (λi wr=>∃(k:Nat),k<=N/\i=.int .i64 (k:Int)/\Hid (J k wr))
  (λi _=>N-(RowKit.intOf i).toNat)
 case atStart=>exact⟨0,Nat.zero_le _,rfl,h0⟩
 case round=>
  clear hb
  obtain⟨k,hk,rfl,hJ⟩:=hrel
  by_cases hlt:k<N
  ·have hlN:l.length=N:=HN.out.symm
   obtain⟨hb,hc⟩:=HRd.out k wr hJ.out
   have hk2:(k+1)%N<N:=Nat.mod_lt _ (by omega)
   obtain⟨b,off,rfl,c0,c1⟩:=hc k (by omega)
   obtain⟨b',off',e,d0,d1⟩:=hc ((k+1)%N) (by omega)
   cases e
   rw[hlN] at hb
   have HY1:=hid λW h=>HY.out k #[I k,zk9 l k] W h hlt rfl
   unfold zk9 at HY1
   rw[hlN] at HY1
   clear HY HRd hc
   generalize (ptOf l k).1=x1 at c0 HY1
   generalize (ptOf l k).2=y1 at c1 HY1
   generalize (ptOf l ((k+1)%N)).1=x2 at d0 HY1
   generalize (ptOf l ((k+1)%N)).2=y2 at d1 HY1
   clear hlN HN
   have hm:Int.tmod ((k:Int)+1) (N:Int)=((k+1)%N:Nat):=by
    rw[show((k:Int)+1)=((k+1:Nat):Int) by omega];rfl
   generalize (k+1)%N=j at hk2 d0 d1 hm
   have hN0:¬N=0:=by omega
   have hwr:IntKind.i64.wrap ((k:Int)+1)=(k:Int)+1:=IntWalk.i64_in _ ⟨by omega,by omega⟩
   obtain⟨W4,hW4⟩:∃W4,W4=wr.alloc (.cells #[St x1,St y1] 25):=⟨_,rfl⟩
   have hB4:qL wr W4:=by rw[hW4];exact(zM _ wr).alloc (zN _) _
   have A4:W4.heap[wr.heap.size]? =some (.cells #[St x1,St y1] 25 (0,0)):=by rw[hW4];exact zG wr _
   have e0:W4.drew.cell? ⟨wr.heap.size,0,none⟩=some (St x1):=by show W4.cell? _=_;simp[World.cell?,A4]
   have e1:W4.drew.cell? ⟨wr.heap.size,1,none⟩=some (St y1):=by show W4.cell? _=_;simp[World.cell?,A4]
   have hb4:W4.drew.cell? ⟨Bs,0,none⟩=some (.slice (some ⟨b,off,none⟩) N cap):=zai hB4 hb
   have d04:W4.drew.cell? ⟨b,off+j*2,none⟩=some (St x2):=zai hB4 d0
   have d14:W4.drew.cell? ⟨b,off+j*2+1,none⟩=some (St y2):=zai hB4 d1
   have hJ4:=HJB.out k wr W4.drew hJ.out hB4.drew
   obtain⟨fn,tmps,assign,body,hy,hR⟩:=HY1.out W4.drew hJ4
   have HW4:=hid hW4;clear hW4 HY1 A4
   gi_wp2
   rw[<-HW4.out]
   refine zns (λ_=>trivial) rfl (λ(g:Bool) i=>([.func (.yield lp) #[] #[],.int .i64 (k:Int),.agg #[St x1,St y1],.slice (some ⟨b,off,none⟩) N cap,.int .i64 (k:Int),.int .i64 ((k:Int)+1),.slice (some ⟨b,off,none⟩) N cap,.int .i64 (N:Int),.int .i64 (j:Int),.pointer (some ⟨b,off+j*2,none⟩),.agg #[St x2,St y2],.agg #[St x1,St y1,St x2,St y2],.bool g,.bool !g]:List Value).getD i undef)
    (λg f W'=>(f 12=false->W'=W4.drew)/\(f 12=true->(g=true/\J (k+1) W')\/(g=false/\Jx W'))) (by kernel_rfl) (by kernel_rfl) true ⟨λ_=>rfl,λh=>by cases h⟩ λg=>?_
   refine zct (.func (.yield lp) #[] #[]) (by rfl) (by rfl) (λf W' h=>⟨h.1,h.2⟩) (λf W' hf h=>by
    obtain rfl:=h.1 (hf.no (j:=12) hf.self (by kernel_rfl))
    go_simp) ?_
   try simp only[zzQ]
   refine zct (.int .i64 (k:Int)) (by rfl) (by rfl) (λf W' h=>⟨h.1,h.2⟩) (λf W' hf h=>by
    obtain rfl:=h.1 (hf.no (j:=12) hf.self (by kernel_rfl))
    go_simp) ?_
   try simp only[zzQ]
   refine zct (.agg #[St x1,St y1]) (by rfl) (by rfl) (λf W' h=>⟨h.1,h.2⟩) (λf W' hf h=>by
    obtain rfl:=h.1 (hf.no (j:=12) (hf.no (j:=11) hf.self (by kernel_rfl)) (by kernel_rfl))
    go_simp) ?_
   try simp only[zzQ]
   refine zct (.slice (some ⟨b,off,none⟩) N cap) (by rfl) (by rfl) (λf W' h=>⟨h.1,h.2⟩) (λf W' hf h=>by
    obtain rfl:=h.1 (hf.no (j:=12) (hf.no (j:=11) (hf.no (j:=10) (hf.no (j:=9) hf.self (by kernel_rfl)) (by kernel_rfl)) (by kernel_rfl)) (by kernel_rfl))
    go_simp) ?_
   try simp only[zzQ]
   refine zct (.int .i64 (k:Int)) (by rfl) (by rfl) (λf W' h=>⟨h.1,h.2⟩) (λf W' hf h=>by
    obtain rfl:=h.1 (hf.no (j:=12) (hf.no (j:=11) (hf.no (j:=10) (hf.no (j:=9) (hf.no (j:=8) (hf.no (j:=5) hf.self (by kernel_rfl)) (by kernel_rfl)) (by kernel_rfl)) (by kernel_rfl)) (by kernel_rfl)) (by kernel_rfl))
    go_simp) ?_
   try simp only[zzQ]
   refine zct (.int .i64 ((k:Int)+1)) (by rfl) (by rfl) (λf W' h=>⟨h.1,h.2⟩) (λf W' hf h=>by
    obtain rfl:=h.1 (hf.no (j:=12) (hf.no (j:=11) (hf.no (j:=10) (hf.no (j:=9) (hf.no (j:=8) hf.self (by kernel_rfl)) (by kernel_rfl)) (by kernel_rfl)) (by kernel_rfl)) (by kernel_rfl))
    go_simp) ?_
   try simp only[zzQ]
   refine zct (.slice (some ⟨b,off,none⟩) N cap) (by rfl) (by rfl) (λf W' h=>⟨h.1,h.2⟩) (λf W' hf h=>by
    obtain rfl:=h.1 (hf.no (j:=12) (hf.no (j:=11) (hf.no (j:=10) (hf.no (j:=9) (hf.no (j:=8) (hf.no (j:=7) hf.self (by kernel_rfl)) (by kernel_rfl)) (by kernel_rfl)) (by kernel_rfl)) (by kernel_rfl)) (by kernel_rfl))
    go_simp) ?_
   try simp only[zzQ]
   refine zct (.int .i64 (N:Int)) (by rfl) (by rfl) (λf W' h=>⟨h.1,h.2⟩) (λf W' hf h=>by
    obtain rfl:=h.1 (hf.no (j:=12) (hf.no (j:=11) (hf.no (j:=10) (hf.no (j:=9) (hf.no (j:=8) hf.self (by kernel_rfl)) (by kernel_rfl)) (by kernel_rfl)) (by kernel_rfl)) (by kernel_rfl))
    go_simp) ?_
   try simp only[zzQ]
   refine zct (.int .i64 (j:Int)) (by rfl) (by rfl) (λf W' h=>⟨h.1,h.2⟩) (λf W' hf h=>by
    obtain rfl:=h.1 (hf.no (j:=12) (hf.no (j:=11) (hf.no (j:=10) (hf.no (j:=9) hf.self (by kernel_rfl)) (by kernel_rfl)) (by kernel_rfl)) (by kernel_rfl))
    go_simp) ?_
   try simp only[zzQ]
   refine zct (.pointer (some ⟨b,off+j*2,none⟩)) (by rfl) (by rfl) (λf W' h=>⟨h.1,h.2⟩) (λf W' hf h=>by
    obtain rfl:=h.1 (hf.no (j:=12) (hf.no (j:=11) (hf.no (j:=10) hf.self (by kernel_rfl)) (by kernel_rfl)) (by kernel_rfl))
    go_simp) ?_
   try simp only[zzQ]
   refine zct (.agg #[St x2,St y2]) (by rfl) (by rfl) (λf W' h=>⟨h.1,h.2⟩) (λf W' hf h=>by
    obtain rfl:=h.1 (hf.no (j:=12) (hf.no (j:=11) hf.self (by kernel_rfl)) (by kernel_rfl))
    go_simp) ?_
   try simp only[zzQ]
   refine zct (.agg #[St x1,St y1,St x2,St y2]) (by rfl) (by rfl) (λf W' h=>⟨h.1,h.2⟩) (λf W' hf h=>by
    obtain rfl:=h.1 (hf.no (j:=12) hf.self (by kernel_rfl))
    go_simp) ?_
   try simp only[zzQ]
   refine z1v (.bool g) (by rfl) (by rfl) (λf W' hf h C' hC'=>by
    obtain rfl:=h.1 hf.self
    go_simp
    refine⟨λ_=>by omega,hR.mono ?_⟩
    rintro e W3 (⟨rfl,hJ3⟩|⟨rfl,hJx3⟩)
    ·refine⟨_,rfl,hC' true W3 (λi hi=>?_) ⟨λh=>(by cases h),λ_=>.inl ⟨rfl,hJ3⟩⟩⟩
     match i,hi with
     |0,_|1,_|2,_|3,_|4,_|5,_|6,_|7,_|8,_|9,_|10,_|11,_=>rfl
     |12,hi=>rw[hf.self] at hi;cases hi
     |13,hi=>rw[hf.no (j:=13) hf.self (by kernel_rfl)] at hi;cases hi
     |_+14,_=>rfl
    ·refine⟨_,rfl,hC' false W3 (λi hi=>?_) ⟨λh=>(by cases h),λ_=>.inr ⟨rfl,hJx3⟩⟩⟩
     match i,hi with
     |0,_|1,_|2,_|3,_|4,_|5,_|6,_|7,_|8,_|9,_|10,_|11,_=>rfl
     |12,hi=>rw[hf.self] at hi;cases hi
     |13,hi=>rw[hf.no (j:=13) hf.self (by kernel_rfl)] at hi;cases hi
     |_+14,_=>rfl) ?_
   try simp only[zzQ]
   refine zct (.bool !g) (by rfl) (by rfl) (λf W' h=>⟨h.1,h.2⟩) (λf W' hf h=>by go_simp) ?_
   try simp only[zzQ]
   refine z1u λf W5 hf h=>?_
   rcases h.2 (hf 12 (by decide)) with⟨rfl,hJ5⟩|⟨rfl,hJx5⟩
   ·have HJ5:=hid hJ5;clear hJ5 hf h
    gi_wp2
    go_roundw
    case rel=>exact⟨k+1,by omega,by go_num,HJ5.out⟩
    case measure=>simp[RowKit.intOf];omega
   ·have HJx5:=hid hJx5;clear hJx5 hf h
    gi_wp2
    refine bodyPost_ret (results_none rfl _ _ _) rfl ?_
    exact⟨⟨_,rfl⟩,.inr HJx5.out⟩
  ·obtain rfl:k=N:=by omega
   gi_wp2
   go_end0
   exact⟨⟨_,rfl⟩,.inl hJ.out⟩
end
end Go.Proofs.YthfpmfdiamldoaaGreatDoor
