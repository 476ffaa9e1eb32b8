/- The numerals of rational numbers, and the plain laws of their arithmetic. Plain Lean: no program stands in this text. -/
import Derived.Test.YtheinkfbiedidaaGreatDoorQ05
set_option maxRecDepth 100000
set_option maxHeartbeats 8000000
open Go renaming World → zA, Calls → zC
open Go.Lib renaming decDigits → zD, itoa → zE
open Go.Proofs.Tryz renaming prog → zF
open Go.World renaming alloc_heap_new → zG
open Go.IntWalk renaming i64_in → zI
open Go.RowKit renaming intOf → zL
open Go.RowKit.Below renaming refl → zM
open Nat renaming le_refl → zN, le_trans → zO, zero_le → zR, lt_of_lt_of_le → zS, pow_le_pow_right → yF
open List renaming size_toArray → zZ, append_nil → yH, cons_append → yM
open Int renaming natAbs_mul → yK
namespace Go.Proofs.YtheinkfbiedidaaGreatDoor.Str
open Go.Lib
def numS (q:Rat):List UInt8:=zE q.num++(if q.den=1 then[] else 47::zD q.den)
theorem zdz (n:Nat):(47:UInt8)∉zD n:=λh=>by have:=zan n _ h;simp at this
theorem zfe (a:Int):(47:UInt8)∉zE a:=by
 rcases zbg a with⟨_,e⟩|⟨_,e⟩<;>rw[e]
 ·exact zdz _
 ·intro h
  rcases List.mem_cons.1 h with h|h
  ·cases h
  ·exact zdz _ h
theorem zkz {α:Type} {x:α}:∀{a b c d:List α},x∉a->x∉c->a++x::b=c++x::d->a=c/\b=d
 |[],_,[],_,_,_,h=>by simpa using h
 |[],_,y::c,_,_,hc,h=>by simp at h;exact absurd h.1 (λe=>hc (by simp[e]))
 |y::a,_,[],_,ha,_,h=>by simp at h;exact absurd h.1 (λe=>ha (by simp[e]))
 |y::a,b,z::c,d,ha,hc,h=>by
  simp at h;obtain⟨h1,h2⟩:=zkz (a:=a) (c:=c) (λk=>ha (by simp[k])) (λk=>hc (by simp[k])) h.2;exact⟨by rw[h.1,h1],h2⟩
theorem zh0 {a b:Rat} (h:numS a=numS b):a=b:=by
 unfold numS at h;have ha:=zfe a.num;have hb:=zfe b.num;by_cases h1:a.den=1<;>by_cases h2:b.den=1
 ·rw[if_pos h1,if_pos h2] at h
  exact Rat.ext (zdo (by simpa using h)) (by omega)
 ·rw[if_pos h1,if_neg h2,yH] at h
  exact absurd (by rw[h];simp) ha
 ·rw[if_neg h1,if_pos h2,yH] at h
  exact absurd (by rw[<-h];simp) hb
 ·rw[if_neg h1,if_neg h2] at h
  obtain⟨e1,e2⟩:=zkz ha hb h;exact Rat.ext (zdo e1) (zfk e2)
theorem zmu {q:Rat} (h:q.den=1):numS q=zE q.num:=by simp[numS,h]
theorem zid {q:Rat} (h:q.den≠1):numS q=zE q.num++47::zD q.den:=by simp[numS,h]
theorem zha (n:Int):numS (n:Rat)=zE n:=by simp[numS]
theorem zie:numS 0=[48]:=by rw[show(0:Rat)=((0:Int):Rat) from rfl,zha,zb9]
theorem zpy (q:Rat):numS q=[48]↔q=0:=⟨λh=>zh0 (h.trans zie.symm),λh=>by rw[h,zie]⟩
theorem zes (n d:Int) (hd:d≠0):Rat.divInt n d=mkRat (if d<0 then-n else n) d.natAbs:=by
 rcases Int.lt_or_gt_of_ne hd with h|h
 ·rw[if_pos h]
  obtain⟨k,rfl⟩:∃k:Nat,d=Int.negSucc k:=⟨(-d-1).toNat,by omega⟩;simp[Rat.divInt,mkRat]
 ·rw[if_neg (by omega)]
  obtain⟨k,rfl⟩:∃k:Nat,d=(k:Int):=⟨d.toNat,by omega⟩;simp[Rat.divInt]
theorem zf0 (a b:Rat):a+b=Rat.divInt (a.num*b.den+b.num*a.den) ((a.den*b.den:Nat):Int):=by
 rw[Rat.add_def,zes _ _ (by have:=a.den_nz;have:=b.den_nz;simp;omega),if_neg (by omega),Int.natAbs_natCast,Rat.mkRat_def,dif_neg]
theorem znk (a b:Rat):a-b=Rat.divInt (a.num*b.den-b.num*a.den) ((a.den*b.den:Nat):Int):=by
 rw[Rat.sub_def,zes _ _ (by have:=a.den_nz;have:=b.den_nz;simp;omega),if_neg (by omega),Int.natAbs_natCast,Rat.mkRat_def,dif_neg]
theorem zf1 (a b:Rat):a*b=Rat.divInt (a.num*b.num) ((a.den*b.den:Nat):Int):=by
 rw[Rat.mul_def,zes _ _ (by have:=a.den_nz;have:=b.den_nz;simp;omega),if_neg (by omega),Int.natAbs_natCast,Rat.mkRat_def,dif_neg]
theorem zif (n d:Int) (hd:0<d):numS (Rat.divInt n d)=zE (n/(Int.gcd n d:Int))++(if d/(Int.gcd n d:Int)=1 then[] else 47::zE (d/(Int.gcd n d:Int))):=by
 obtain⟨k,rfl⟩:∃k:Nat,d=(k:Int):=⟨d.toNat,by omega⟩;have hk:k≠0:=by omega
 rw[zes _ _ (by omega),if_neg (by omega),Int.natAbs_natCast];unfold numS;rw[Rat.num_mkRat,Rat.den_mkRat,if_neg hk,if_neg hk];have e:k.gcd n.natAbs=Int.gcd n (k:Int):=by rw[Int.gcd,Int.natAbs_natCast,Nat.gcd_comm]
 rw[e,<-Int.natCast_ediv,zad];congr 1;by_cases h:k/Int.gcd n (k:Int)=1
 ·rw[if_pos h,if_pos (by omega)]
 ·rw[if_neg h,if_neg (by omega)]
def sz (q:Rat) (k:Nat):Prop:=q.num.natAbs<10^k/\q.den<10^k
theorem sz.mono {q:Rat} {i j:Nat} (h:sz q i) (hij:i<=j):sz q j:=
 have:=yF (show 0<10 by omega) hij
 ⟨zS h.1 this,zS h.2 this⟩
theorem zig {n d:Int} {k:Nat} (hd:d≠0) (h1:n.natAbs<10^k) (h2:d.natAbs<10^k):sz (Rat.divInt n d) k:=by
 rw[zes _ _ hd];have hk:d.natAbs≠0:=by omega
 constructor
 ·rw[Rat.num_mkRat,if_neg hk]
  refine Nat.lt_of_le_of_lt ?_ h1;have:(if d<0 then-n else n).natAbs=n.natAbs:=by split<;>omega
  rw[Int.natAbs_ediv_of_dvd (Int.ofNat_dvd_left.2 (Nat.gcd_dvd_right _ _)),this];exact Nat.div_le_self _ _
 ·rw[Rat.den_mkRat,if_neg hk]
  exact Nat.lt_of_le_of_lt (Nat.div_le_self _ _) h2
theorem zcc {a b i j:Nat} (h1:a<10^i) (h2:b<10^j):a*b<10^(i+j):=by
 rw[Nat.pow_add];exact Nat.mul_lt_mul'' h1 h2
theorem zuz {a b i:Nat} (h1:a<10^i) (h2:b<10^i):a+b<10^(i+1):=by
 rw[Nat.pow_succ];omega
theorem ze0 (x:Int) (d:Nat):(x*d).natAbs=x.natAbs*d:=by rw[yK,Int.natAbs_natCast]
theorem zk0 {a b:Rat} {i j:Nat} (ha:sz a i) (hb:sz b j):sz (a+b) (i+j+1):=by
 rw[zf0];have h1:=zcc ha.1 hb.2;have h2:=zcc hb.1 ha.2;have h3:=zcc ha.2 hb.2;rw[Nat.add_comm j i] at h2;have h4:=zuz h1 h2;have:=a.den_nz;have:=b.den_nz;refine zig (by simp;omega) ?_ ?_
 ·refine Nat.lt_of_le_of_lt (Int.natAbs_add_le _ _) ?_
  rw[ze0,ze0];exact h4
 ·rw[Int.natAbs_natCast,Nat.pow_succ];omega
theorem z0i {a b:Rat} {i j:Nat} (ha:sz a i) (hb:sz b j):sz (a-b) (i+j+1):=by
 rw[Rat.sub_eq_add_neg];exact zk0 ha ⟨by simpa using hb.1,by simpa using hb.2⟩
theorem zca {a b:Rat} {i j:Nat} (ha:sz a i) (hb:sz b j):sz (a*b) (i+j):=by
 rw[zf1];have:=a.den_nz;have:=b.den_nz;refine zig (by simp;omega) ?_ ?_
 ·rw[yK];exact zcc ha.1 hb.1
 ·rw[Int.natAbs_natCast];exact zcc ha.2 hb.2
theorem zjx (a b:Rat) (hb:b≠0):a/b=Rat.divInt (a.num*b.den) (a.den*b.num):=by
 have h0:b.num≠0:=λh=>hb (Rat.num_eq_zero.1 h);rw[Rat.div_def,Rat.inv_def]
 conv=>lhs;lhs;rw[<-Rat.num_divInt_den a]
 rw[Rat.divInt_mul_divInt]
theorem z8t {a b:Rat} {i j:Nat} (hb0:b≠0) (ha:sz a i) (hb:sz b j):sz (a/b) (i+j):=by
 have h0:b.num≠0:=λh=>hb0 (Rat.num_eq_zero.1 h);have:=a.den_nz;rw[zjx _ _ hb0];refine zig (Int.mul_ne_zero (by omega) h0) ?_ ?_
 ·rw[ze0];exact zcc ha.1 hb.2
 ·rw[yK,Int.natAbs_natCast];exact zcc ha.2 hb.1
theorem zqf (k:Nat) (hk:0<k):sz 0 k:=by
 have:10^1<=10^k:=yF (by omega) hk;exact⟨by simp;omega,by simp;omega⟩
theorem z1j (l:List UInt8):(∃q,l=numS q)↔(∃a,l=zE a)\/∃(a:Int) (d:Nat),l=zE a++47::zD d/\2<=d/\Nat.gcd a.natAbs d=1:=by
 constructor
 ·rintro⟨q,rfl⟩
  by_cases h:q.den=1
  ·exact .inl ⟨_,zmu h⟩
  ·exact .inr ⟨_,_,zid h,by have:=q.den_nz;omega,q.reduced⟩
 ·rintro(⟨a,rfl⟩|⟨a,d,rfl,h1,h2⟩)
  ·exact⟨(a:Rat),(zha a).symm⟩
  ·exact⟨⟨a,d,by omega,h2⟩,by rw[zid (by simp;omega)]⟩
def bare (l:List UInt8):List UInt8:=if l.head? =some 45 then l.tail else l
def upS (l:List UInt8):List UInt8:=(bare l).takeWhile (· !=47)
def dnS (l:List UInt8):List UInt8:=((bare l).dropWhile (· !=47)).tail
def hasS (l:List UInt8):Prop:=(47:UInt8)∈bare l
def okS (l:List UInt8):Prop:=
 zds (upS l)/\¬(l.head? =some 45/\upS l=[48])/\(hasS l->zds (dnS l)/\dnS l≠[48]/\dnS l≠[49]/\Nat.gcd (val (upS l)) (val (dnS l))=1)
theorem zty {a b:List UInt8} (h:(47:UInt8)∉a):(a++47::b).takeWhile (· !=47)=a/\(a++47::b).dropWhile (· !=47)=47::b:=by
 induction a with
 |nil=>simp
 |cons x r ih=>
  have hx:x≠47:=λe=>h (by simp[e]);obtain⟨i1,i2⟩:=ih (λk=>h (by simp[k]));simp[hx,i1,i2]
theorem zjy {a:List UInt8} (h:(47:UInt8)∉a):a.takeWhile (· !=47)=a:=by
 induction a with
 |nil=>simp
 |cons x r ih=>
  have hx:x≠47:=λe=>h (by simp[e]);simp[hx,ih (λk=>h (by simp[k]))]
theorem zy5 {l:List UInt8} (h:(47:UInt8)∈l):l=l.takeWhile (· !=47)++47::(l.dropWhile (· !=47)).tail/\(47:UInt8)∉l.takeWhile (· !=47):=by
 induction l with
 |nil=>cases h
 |cons x r ih=>
  by_cases hx:x=47
  ·subst hx;simp
  ·have hr:(47:UInt8)∈r:=by
    rcases List.mem_cons.1 h with e|e
    ·exact absurd e.symm hx
    ·exact e
   obtain⟨i1,i2⟩:=ih hr;have hb:(x !=47)=true:=by simpa using hx
   rw[List.takeWhile_cons,if_pos hb,List.dropWhile_cons,if_pos hb]
   exact⟨by rw[yM,<-i1],λk=>by
    rcases List.mem_cons.1 k with e|e
    ·exact hx e.symm
    ·exact i2 e⟩
theorem zy6 (n:Nat) (t:List UInt8):bare (zD n++t)=zD n++t:=by
 obtain⟨c,r,e,h1,_⟩:=dec_head n;unfold bare;rw[e,yM,List.head?_cons,if_neg (λh=>by cases h;simp at h1)]
theorem zk1 (a:Int) (t:List UInt8):bare (zE a++t)=zD a.natAbs++t:=by
 rcases zbg a with⟨_,e⟩|⟨_,e⟩<;>rw[e]
 ·exact zy6 _ _
 ·simp[bare]
theorem zk2 (a:Int) (t:List UInt8):(zE a++t).head? =some 45↔a<0:=by
 rcases zbg a with⟨h,e⟩|⟨h,e⟩<;>rw[e]
 ·obtain⟨c,r,e,h1,_⟩:=dec_head a.natAbs
  rw[e];constructor
  ·intro h;simp at h;subst h;simp at h1
  ·omega
 ·simp;omega
theorem zhb (l:List UInt8):(l.head? =some 45/\l=45::bare l)\/(l.head? ≠some 45/\l=bare l):=by
 unfold bare
 cases l with
 |nil=>right;simp
 |cons x r=>
  by_cases h:x=45
  ·subst h;left;simp
  ·right;simp[h]
theorem zlq (l:List UInt8):okS l↔∃q,l=numS q:=by
 rw[z1j];constructor
 ·rintro⟨h1,h2,h3⟩
  by_cases hs:hasS l
  ·obtain⟨k1,k2,k3,k4⟩:=h3 hs
   obtain⟨e1,e2⟩:=zy5 (l:=bare l) hs;have hd:2<=val (dnS l):=by
    rcases Nat.lt_or_ge (val (dnS l)) 2 with h|h
    ·exfalso
     have:=zeh k1;rcases(show val (dnS l)=0\/val (dnS l)=1 by omega) with e|e
     ·rw[e] at this;exact k2 (this.symm.trans zdj)
     ·rw[e] at this;exact k3 (this.symm.trans (by rw[zae (by omega)];rfl))
    ·exact h
   have e3:bare l=zD (val (upS l))++47::zD (val (dnS l)):=by rw[zeh h1,zeh k1];exact e1
   rcases zhb l with⟨b1,b2⟩|⟨b1,b2⟩
   ·have hp:0<val (upS l):=by
     rcases Nat.eq_zero_or_pos (val (upS l)) with e|e
     ·have:=zeh h1
      rw[e] at this;exact absurd ⟨b1,this.symm.trans zdj⟩ h2
     ·exact e
    exact .inr ⟨-(val (upS l):Int),val (dnS l),b2.trans (by rw[e3,zga _ hp];rfl),hd,by simpa using k4⟩
   ·exact .inr ⟨(val (upS l):Int),val (dnS l),b2.trans (by rw[e3,zad]),hd,by simpa using k4⟩
  ·have e1:upS l=bare l:=zjy hs
   have e3:bare l=zD (val (upS l)):=by rw[zeh h1,e1]
   rcases zhb l with⟨b1,b2⟩|⟨b1,b2⟩
   ·have hp:0<val (upS l):=by
     rcases Nat.eq_zero_or_pos (val (upS l)) with e|e
     ·have:=zeh h1
      rw[e] at this;exact absurd ⟨b1,this.symm.trans zdj⟩ h2
     ·exact e
    exact .inl ⟨-(val (upS l):Int),b2.trans (by rw[e3,zga _ hp])⟩
   ·exact .inl ⟨(val (upS l):Int),b2.trans (by rw[e3,zad])⟩
 ·have hz:∀a:Int,¬(a<0/\zD a.natAbs=[48]):=λa ⟨h1,h2⟩=>by
   have:=zfk (h2.trans zdj.symm);omega
  rintro(⟨a,rfl⟩|⟨a,d,rfl,h1,h2⟩)
  ·have e0:zE a=zE a++[]:=by simp
   have e1:bare (zE a)=zD a.natAbs:=by rw[e0,zk1];simp
   have e2:upS (zE a)=zD a.natAbs:=by unfold upS;rw[e1,zjy (zdz _)]
   refine⟨by rw[e2];exact zh9 _,?_,λh=>absurd h (by unfold hasS;rw[e1];exact zdz _)⟩;rw[e2,e0,zk2];exact hz a
  ·have e1:=zk1 a (47::zD d)
   obtain⟨t1,t2⟩:=zty (b:=zD d) (zdz a.natAbs);have e2:upS (zE a++47::zD d)=zD a.natAbs:=by unfold upS;rw[e1,t1]
   have e3:dnS (zE a++47::zD d)=zD d:=by unfold dnS;rw[e1,t2];rfl
   refine⟨by rw[e2];exact zh9 _,?_,λ_=>⟨by rw[e3];exact zh9 _,?_,?_,?_⟩⟩
   ·rw[e2,zk2];exact hz a
   ·rw[e3];intro h;have:=zfk (h.trans zdj.symm);omega
   ·rw[e3];intro h
    have:=zfk (h.trans (show[49]=zD 1 by rw[zae (by omega)];rfl));omega
   ·rw[e2,e3,zb2,zb2];exact h2
theorem zto {q:Rat} {k:Nat} (hk:0<k) (h:(numS q).length<=k):sz q k:=by
 have h3:=zbr q.num;have hp:10^1<=10^k:=yF (by omega) hk;by_cases h1:q.den=1
 ·rw[zmu h1] at h
  exact⟨(za3 _ _ hk).1 (by omega),by omega⟩
 ·rw[zid h1] at h
  simp at h;exact⟨(za3 _ _ hk).1 (by omega),(zaf _ _ hk).1 (by omega)⟩
end Go.Proofs.YtheinkfbiedidaaGreatDoor.Str
namespace Go.Proofs.YtheinkfbiedidaaGreatDoor
open Go.RowKit Go.Shelf Lib Str Limb
attribute [local go_sem] Oper.semAt_some
theorem zjc:∀(l:List UInt8),(∀c∈l,48<=c.toNat/\c.toNat<=57)->val l<10^l.length:=by
 intro l h;have e:=zmr l 0;rw[Nat.mul_zero,Nat.add_zero] at e;have:=zb6 (zfz h);rw[zfi] at this;show l.foldl _ 0<_;rw[e];exact this
structure Runs (l t:List UInt8):Prop where
 dig:∀c∈l,48<=c.toNat/\c.toNat<=57
 stop:t=[]\/∃c r,t=c::r/\(c.toNat<48\/57<c.toNat)
theorem zii {l t:List UInt8} (h:Runs l t) (s:ByteArray) (hs:s=⟨(l++t).toArray⟩):
 s.size=l.length+t.length/\(∀k (_:k<l.length) (hb:k<s.size),48<=(s[k]'hb).toNat/\(s[k]'hb).toNat<=57/\val (l.take (k+1))=10*val (l.take k)+((s[k]'hb).toNat-48))/\
 (∀(hb:l.length<s.size),(s[l.length]'hb).toNat<48\/57<(s[l.length]'hb).toNat):=by
 subst hs;refine⟨by show(l++t).toArray.size=_;simp,λk hk hb=>?_,λhb=>?_⟩
 ·rw[zng _ _ hb (by simp;omega),List.getElem_append_left hk]
  obtain⟨h1,h2⟩:=h.dig _ (List.getElem_mem hk);refine⟨h1,h2,?_⟩;rw[List.take_succ_eq_append_getElem hk,zde]
 ·have hb':l.length<(l++t).length:=by
   have:(⟨(l++t).toArray⟩:ByteArray).size=(l++t).length:=by show(l++t).toArray.size=_;simp
   omega
  rw[zng _ _ hb hb',List.getElem_append_right (zN _)];rcases h.stop with rfl|⟨c,r,rfl,hc⟩
  ·simp at hb'
  ·simpa using hc
theorem ziu {l:List UInt8} (h:∀c∈l,48<=c.toNat/\c.toNat<=57) {k:Nat} (hk:k<=9):val (l.take k)<1000000000:=by
 have h1:=zjc (l.take k) (λc hc=>h c (List.mem_of_mem_take hc));have h2:(10:Nat)^(l.take k).length<=10^9:=yF (by omega) (by simp;omega);exact zS h1 h2
theorem zl8 (l t:List UInt8):((⟨(l++t).toArray⟩:ByteArray).extract l.length (⟨(l++t).toArray⟩:ByteArray).size)=⟨t.toArray⟩:=by
 have h1:(⟨(l++t).toArray⟩:ByteArray).size=l.length+t.length:=by show(l++t).toArray.size=_;simp
 rw[h1];apply ByteArray.ext;rw[ByteArray.data_extract];simp
theorem zjz (n:Nat) (t:List UInt8) (s:ByteArray) (hs:s=⟨(zD n++t).toArray⟩):(zD n).length<=1\/∀hb:0<s.size,(s[0]'hb).toNat≠48:=by
 by_cases h:(zD n).length<=1
 ·exact .inl h
 ·refine .inr λhb e=>h ?_
  subst hs;have hl:0<(zD n).length:=by omega
  rw[zng _ _ hb (by simp;omega),List.getElem_append_left hl] at e;have:(zD n).head? =some 48:=by
   rw[List.head?_eq_getElem?,List.getElem?_eq_getElem hl];congr 1;exact UInt8.toNat_inj.1 (by rw[e];rfl)
  have:=zmm n this;subst this;rw[zdj];simp
theorem zcn (n:Nat) (t:List UInt8) (h:Runs (zD n) t) (hl:(zD n).length<=8) (ht:t.length<=1000000) (w:zA):
 zC zF 157 #[St (zD n++t)] w λe w'=>∃nd,e=.returned (.tuple #[I n,St t,.bool true])/\w'=w.drewN nd:=by
 obtain⟨s,hs⟩:∃s:ByteArray,s=⟨(zD n++t).toArray⟩:=⟨_,rfl⟩;obtain⟨b1,b2,b3⟩:=zii h s hs;have hex:(s.extract (zD n).length s.size)=⟨t.toArray⟩:=by rw[hs];exact zl8 _ _
 have hvn:=zb2 n;have hvt:=λk hk=>ziu (l:=zD n) h.dig (k:=k) hk;have hzero:(zD n).length<=1\/∀hb:0<s.size,(s[0]'hb).toNat≠48:=zjz n t s hs;have hpos:1<=(zD n).length:=by have:=zbn (n:Int);unfold digs at this;simpa using this
 show zC _ _ #[.string ⟨(zD n++t).toArray⟩] _ _;rw[<-hs];have hfull:val ((zD n).take (zD n).length)=n:=by rw[List.take_length];exact hvn
 generalize hL:(zD n).length=m at*
 generalize hvf:(λk=>val ((zD n).take k))=vf at*
 have hv0:vf 0=0:=by rw[<-hvf];rfl
 have hb2:∀k (hk:k<m) (hb:k<s.size),48<=(s[k]'hb).toNat/\(s[k]'hb).toNat<=57/\vf (k+1)=10*vf k+((s[k]'hb).toNat-48):=by rw[<-hvf];exact b2
 have hvt':∀k,k<=9->vf k<1000000000:=by rw[<-hvf];exact hvt
 have hvm:vf m=n:=by rw[<-hvf];exact hfull
 clear b2 hvt hfull hvn hvf hL h hs;have B2:=hid hb2;have B3:=hid b3;have VT:=hid hvt';have VM:=hid hvm;have HEX:=hid hex;have HZ:=hid hzero;have B1:=hid b1;have V0:=hid hv0;have hsz:s.size<=2000000:=by omega
 have hsm:m<=s.size:=by omega
 clear hb2 b3 hvt' hvm hex hzero b1 hv0;go_enter Tryz.func157,Tryz.ntmps157;go_wp2;go_loop [5,6] (λa i=>∃k:Nat,k<=m/\i=.int .i64 k/\a=.int .i64 (vf k:Nat)) (λ_ i=>m-(zL i).toNat)
 case atStart=>exact⟨0,zR _,rfl,by rw[V0.out];rfl⟩
 case round=>
  obtain⟨k,hk,rfl,rfl⟩:=hrel;by_cases hlt:k<m
  ·have hks:k<s.size:=by omega
   obtain⟨c1,c2,c3⟩:=B2.out k hlt hks;have hv:=VT.out k (by omega);generalize vf k=v at*
   have C3:=hid c3;clear c3;have d1:(48:Int)<=(s[k].toNat:Int):=by omega
   have d2:(s[k].toNat:Int)<=57:=by omega
   go_wp2;go_round
   case rel=>exact⟨k+1,by omega,by go_num,by rw[C3.out];show Value.int .i64 _=Value.int .i64 _;congr 1;omega⟩
   case measure=>simp[zL];omega
  ·obtain rfl:k=m:=by omega
   have hm0:((k:Int)==0)=false:=by rw[beq_eq_false_iff_ne];omega
   have hm8:¬(8:Int)<k:=by omega
   have hk8:(k:Int)<=8:=by omega
   have hd:k<s.size/\(∀hb:k<s.size,(s[k]'hb).toNat<48)\/k<s.size/\(∀hb:k<s.size,48<=(s[k]'hb).toNat/\57<(s[k]'hb).toNat)\/¬k<s.size:=by
    by_cases h1:k<s.size
    ·rcases B3.out h1 with h2|h2
     ·exact .inl ⟨h1,λ_=>h2⟩
     ·exact .inr (.inl ⟨h1,λ_=>⟨by omega,h2⟩⟩)
    ·exact .inr (.inr h1)
   have hz1:k<=1\/1<k/\∀hb:0<s.size,(s[0]'hb).toNat≠48:=by
    rcases HZ.out with h|h
    ·exact .inl h
    ·by_cases h1:k<=1
     ·exact .inl h1
     ·exact .inr ⟨by omega,h⟩
   have HD:=hid hd;clear hd;rcases hz1 with h1|⟨h1,h2⟩
   ·have h1':¬(1:Int)<k:=by omega
    rcases HD.out with⟨g1,g2⟩|⟨g1,g2⟩|g1
    ·have g3:((s[k]'g1).toNat:Int)<48:=by have:=g2 g1;omega
     clear g2;go_wp2
     (refine wp_region_quiet_lit (by kernel_rfl) (by kernel_rfl) (WQ.out ?_);(repeat(first|(apply WQ.read (by rfl);(focus(rintro W ⟨n,rfl⟩;go_simp;try with_reducible rfl));try simp only[zzQ])|(apply WQ.skip (by rfl);try simp only[zzQ])));refine WQ.nil ?_;rintro _ ⟨nq,rfl⟩)
     go_wp2;go_ret3;exact⟨nq,by rw[HEX.out,VM.out];rfl,rfl⟩
    ·have g3:(48:Int)<=(s[k]'g1).toNat:=by have:=g2 g1;omega
     have g4:(57:Int)<(s[k]'g1).toNat:=by have:=g2 g1;omega
     clear g2;go_wp2
     (refine wp_region_quiet_lit (by kernel_rfl) (by kernel_rfl) (WQ.out ?_);(repeat(first|(apply WQ.read (by rfl);(focus(rintro W ⟨n,rfl⟩;go_simp;try with_reducible rfl));try simp only[zzQ])|(apply WQ.skip (by rfl);try simp only[zzQ])));refine WQ.nil ?_;rintro _ ⟨nq,rfl⟩)
     go_wp2;go_ret3;exact⟨nq,by rw[HEX.out,VM.out];rfl,rfl⟩
    ·go_wp2
     (refine wp_region_quiet_lit (by kernel_rfl) (by kernel_rfl) (WQ.out ?_);(repeat(first|(apply WQ.read (by rfl);(focus(rintro W ⟨n,rfl⟩;go_simp;try with_reducible rfl));try simp only[zzQ])|(apply WQ.skip (by rfl);try simp only[zzQ])));refine WQ.nil ?_;rintro _ ⟨nq,rfl⟩)
     go_wp2;go_ret3;exact⟨nq,by rw[HEX.out,VM.out];rfl,rfl⟩
   ·have h1':(1:Int)<k:=by omega
    have hs0:0<s.size:=by omega
    have h3:(((s[0]'hs0).toNat:Int)==48)=false:=by rw[beq_eq_false_iff_ne];have:=h2 hs0;omega
    clear h2;rcases HD.out with⟨g1,g2⟩|⟨g1,g2⟩|g1
    ·have g3:((s[k]'g1).toNat:Int)<48:=by have:=g2 g1;omega
     clear g2;go_wp2
     (refine wp_region_quiet_lit (by kernel_rfl) (by kernel_rfl) (WQ.out ?_);(repeat(first|(apply WQ.read (by rfl);(focus(rintro W ⟨n,rfl⟩;go_simp;try with_reducible rfl));try simp only[zzQ])|(apply WQ.skip (by rfl);try simp only[zzQ])));refine WQ.nil ?_;rintro _ ⟨nq,rfl⟩)
     go_wp2;go_ret3;exact⟨nq,by rw[HEX.out,VM.out];rfl,rfl⟩
    ·have g3:(48:Int)<=(s[k]'g1).toNat:=by have:=g2 g1;omega
     have g4:(57:Int)<(s[k]'g1).toNat:=by have:=g2 g1;omega
     clear g2;go_wp2
     (refine wp_region_quiet_lit (by kernel_rfl) (by kernel_rfl) (WQ.out ?_);(repeat(first|(apply WQ.read (by rfl);(focus(rintro W ⟨n,rfl⟩;go_simp;try with_reducible rfl));try simp only[zzQ])|(apply WQ.skip (by rfl);try simp only[zzQ])));refine WQ.nil ?_;rintro _ ⟨nq,rfl⟩)
     go_wp2;go_ret3;exact⟨nq,by rw[HEX.out,VM.out];rfl,rfl⟩
    ·go_wp2
     (refine wp_region_quiet_lit (by kernel_rfl) (by kernel_rfl) (WQ.out ?_);(repeat(first|(apply WQ.read (by rfl);(focus(rintro W ⟨n,rfl⟩;go_simp;try with_reducible rfl));try simp only[zzQ])|(apply WQ.skip (by rfl);try simp only[zzQ])));refine WQ.nil ?_;rintro _ ⟨nq,rfl⟩)
     go_wp2;go_ret3;exact⟨nq,by rw[HEX.out,VM.out];rfl,rfl⟩
theorem zf2 (n:Nat) (t:List UInt8) (h:Runs (zD n) t) (hl:8<(zD n).length) (hl2:(zD n).length<=1000000) (ht:t.length<=1000000) (w:zA):
 zC zF 157 #[St (zD n++t)] w λe w'=>e=.returned (.tuple #[.int .i64 0,St [],.bool false])/\w'=w:=by
 obtain⟨s,hs⟩:∃s:ByteArray,s=⟨(zD n++t).toArray⟩:=⟨_,rfl⟩;obtain⟨b1,b2, -⟩:=zii h s hs;have hvt:=λk hk=>ziu (l:=zD n) h.dig (k:=k) hk;show zC _ _ #[.string ⟨(zD n++t).toArray⟩] _ _;rw[<-hs];generalize hL:(zD n).length=m at*
 generalize hvf:(λk=>val ((zD n).take k))=vf at*
 have hv0:vf 0=0:=by rw[<-hvf];rfl
 have hb2:∀k (hk:k<m) (hb:k<s.size),48<=(s[k]'hb).toNat/\(s[k]'hb).toNat<=57/\vf (k+1)=10*vf k+((s[k]'hb).toNat-48):=by rw[<-hvf];exact b2
 have hvt':∀k,k<=9->vf k<1000000000:=by rw[<-hvf];exact hvt
 clear b2 hvt hvf hL h hs;have B2:=hid hb2;have VT:=hid hvt';have V0:=hid hv0;have hsz:s.size<=2000000:=by omega
 have hsm:m<=s.size:=by omega
 clear hb2 hvt' b1 hv0;go_enter Tryz.func157,Tryz.ntmps157;go_wp2;go_loop [5,6] (λa i=>∃k:Nat,k<=9/\i=.int .i64 k/\a=.int .i64 (vf k:Nat)) (λ_ i=>9-(zL i).toNat)
 case atStart=>exact⟨0,zR _,rfl,by rw[V0.out];rfl⟩
 case round=>
  obtain⟨k,hk,rfl,rfl⟩:=hrel;by_cases hlt:k<9
  ·have hks:k<s.size:=by omega
   have hk8:(k:Int)<=8:=by omega
   obtain⟨c1,c2,c3⟩:=B2.out k (by omega) hks;have hv:=VT.out k (by omega);generalize vf k=v at*
   have C3:=hid c3;clear c3;have d1:(48:Int)<=(s[k].toNat:Int):=by omega
   have d2:(s[k].toNat:Int)<=57:=by omega
   go_wp2;go_round
   case rel=>exact⟨k+1,by omega,by go_num,by rw[C3.out];show Value.int .i64 _=Value.int .i64 _;congr 1;omega⟩
   case measure=>simp[zL];omega
  ·obtain rfl:k=9:=by omega
   by_cases h9:9<s.size
   ·go_wp2
    go_ret3;exact⟨rfl,rfl⟩
   ·go_wp2
    go_ret3;exact⟨rfl,rfl⟩
theorem zh1 (a b:Nat):Nat.gcd b (a%b)=Nat.gcd a b:=by
 rw[Nat.gcd_comm b,<-Nat.gcd_rec,Nat.gcd_comm]
theorem zj0 (a b:Nat) (ha:a<1000000000000000000) (hb:b<1000000000000000000) (w:zA):
 zC zF 158 #[I a,I b] w λe w'=>∃nd,e=.returned (I (Nat.gcd a b))/\w'=w.drewN nd:=by
 obtain⟨g,hg⟩:∃g,g=Nat.gcd a b:=⟨_,rfl⟩;rw[<-hg];have HG:=hid hg;clear hg;go_enter Tryz.func158,Tryz.ntmps158;go_wp2;go_loopw [0,1] (λx y wr=>∃m n:Nat,x=I m/\y=I n/\Hid (Nat.gcd m n=g)/\m<1000000000000000000/\n<1000000000000000000/\∃nd,wr=w.drewN nd)
  (λ_ y _=>(zL y).toNat)
 case atStart=>exact⟨a,b,rfl,rfl,HG.out.symm,ha,hb,0,rfl⟩
 case round=>
  clear ha hb;obtain⟨m,n,rfl,rfl,hgm,m1,n1,nd,rfl⟩:=hrel;by_cases h0:n=0
  ·subst h0
   have hm:m=g:=by have:=hgm.out;rw[Nat.gcd_zero_right] at this;exact this
   have HM:=hid hm;clear hm;go_wp2;go_ret;exact⟨nd,by rw[HM.out];rfl,rfl⟩
  ·have hn0:((n:Int) !=0)=true:=by simp;omega
   obtain⟨t,ht⟩:∃t,t=m%n:=⟨_,rfl⟩;have ht1:t<n:=by rw[ht];exact Nat.mod_lt _ (by omega)
   have hgt:=zh1 m n;rw[<-ht] at hgt;have hwr:IntKind.i64.wrap ((m:Int).tmod n)=(t:Int):=by
    rw[Int.tmod_eq_emod_of_nonneg (by omega),<-Int.natCast_emod,<-ht];exact zI _ (by omega)
   have hwe:((m:Int).tmod n)=(t:Int):=by rw[Int.tmod_eq_emod_of_nonneg (by omega),<-Int.natCast_emod,<-ht]
   have HGT:=hid hgt;have HW:=hid hwe;clear hgt ht hwe;go_wp2
   (refine wp_region_quiet_lit (by kernel_rfl) (by kernel_rfl) (WQ.out ?_);(repeat(first|(apply WQ.read (by rfl);(focus(rintro W ⟨n,rfl⟩;go_simp;try with_reducible rfl));try simp only[zzQ])|(apply WQ.skip (by rfl);try simp only[zzQ])));refine WQ.nil ?_;rintro _ ⟨nq,rfl⟩)
   go_wp2;go_roundw
   case rel=>exact⟨n,t,rfl,by first|rfl|(rw[HW.out])|(show Value.int .i64 _=Value.int .i64 _;congr 1;have:=HW.out;rw[<-this,Int.tmod_eq_emod_of_nonneg (by omega)]),HGT.out.trans hgm.out,n1,by omega,_,World.drewN_drewN _ _ _⟩
   case measure=>first|(show((m:Int).tmod n).toNat<(n:Int).toNat;rw[HW.out];omega)|(simp[zL];omega)
theorem zd7 (n:Nat):Runs (zD n) []:=⟨zan n,.inl rfl⟩
theorem zf3 (n:Nat) (t:List UInt8):Runs (zD n) (47::t):=⟨zan n,.inr ⟨47,t,rfl,.inl (by decide)⟩⟩
theorem zco (a:List UInt8) (hne:a≠[]) (s:ByteArray) (hs:s=⟨a.toArray⟩):s.toList.isEmpty=false/\0<s.size/\s.size=a.length/\∀hb:0<s.size,s[0]'hb=a.head hne:=by
 subst hs;obtain⟨c,r,rfl⟩:∃c r,a=c::r:=by
  cases a with
  |nil=>exact absurd rfl hne
  |cons c r=>exact⟨c,r,rfl⟩
 have h1:(⟨(c::r).toArray⟩:ByteArray).size=r.length+1:=by show(c::r).toArray.size=_;simp
 exact⟨by rw[ByteArray.toList_eq];simp,by omega,by rw[h1];simp,λhb=>ba0 c r hb⟩
theorem ze9 (c:UInt8) (r:List UInt8):((⟨(c::r).toArray⟩:ByteArray).extract 1 (⟨(c::r).toArray⟩:ByteArray).size)=⟨r.toArray⟩:=by
 have:=zl8 [c] r;simpa using this
theorem zq6 (n:Nat) (hl:(zD n).length<=8) (w:zA):
 qJ 112 #[St (zD n)] w (.tuple #[.agg #[I n,.int .i64 1],.bool true]):=by
 obtain⟨s,hs⟩:∃s:ByteArray,s=⟨(zD n).toArray⟩:=⟨_,rfl⟩;obtain⟨s1,s2,s3,s4⟩:=zco _ (zci n) s hs;have hc:=zcn n [] (zd7 n) hl (by simp);rw[yH] at hc;show zC _ _ #[.string ⟨(zD n).toArray⟩] _ _;have hc':∀w,zC zF 157 #[.string s] w λe w'=>∃nd,e=.returned (.tuple #[I n,St [],.bool true])/\w'=w.drewN nd:=by rw[hs];exact hc
 rw[<-hs];obtain⟨c,r,hd,hc1,hc2⟩:=dec_head n;have h45:(((s[0]'s2).toNat:Int)==45)=false:=by
  rw[beq_eq_false_iff_ne,s4 s2];simp only[hd,List.head_cons];omega
 have HC:=hid hc';clear hc hc' hs s3 s4 hd;go_enter Tryz.func112,Tryz.ntmps112;go_wp2_with fail;refine(HC.out _).mono ?_;rintro e w1 ⟨nd,rfl,rfl⟩;go_wp2_with fail;have hB:qL w (((((w.alloc (.cells #[.int .i64 0,.int .i64 0] 117)).drewN nd).setCell ⟨w.heap.size,0,none⟩ (.int .i64 n)).setCell ⟨w.heap.size,1,none⟩ (.int .i64 1)).alloc (.cells #[.int .i64 n,.int .i64 1] 117)):=
  (((zao ((zM _ w).alloc (zN _) _) nd).setCell (p:=⟨w.heap.size,0,none⟩) (by simp) _).setCell (p:=⟨w.heap.size,1,none⟩) (by simp) _).alloc (by simp[World.setCell,World.drewN]) _
 exact bodyPost_ret (v:=.tuple #[.agg #[I n,.int .i64 1],.bool true]) (by simp[results,Tryz.results112,go_sem]) rfl ⟨rfl,hB⟩
theorem zgu (l:List UInt8) (s:ByteArray) (hs:s=⟨((45:UInt8)::l).toArray⟩):s.toList.isEmpty=false/\0<s.size/\s.size=l.length+1/\(∀hb:0<s.size,(((s[0]'hb).toNat:Int)==45)=true)/\s.extract 1 s.size=⟨l.toArray⟩:=by
 obtain⟨s1,s2,s3,s4⟩:=zco (45::l) (by simp) s hs;exact⟨s1,s2,by simpa using s3,λhb=>by rw[s4 hb];rfl,by rw[hs];exact ze9 _ _⟩
theorem zq7 (n:Nat) (h0:0<n) (hl:(zD n).length<=8) (w:zA):
 qJ 112 #[St (45::zD n)] w (.tuple #[.agg #[.int .i64 (-(n:Int)),.int .i64 1],.bool true]):=by
 obtain⟨s,hs⟩:∃s:ByteArray,s=⟨(45::zD n).toArray⟩:=⟨_,rfl⟩;obtain⟨s1,s2,s3,s4,s5⟩:=zgu _ s hs;have hc:=zcn n [] (zd7 n) hl (by simp);rw[yH] at hc;show zC _ _ #[.string ⟨(45::zD n).toArray⟩] _ _;obtain⟨u,hu⟩:∃u:ByteArray,u=⟨(zD n).toArray⟩:=⟨_,rfl⟩;have hus:u.size=(zD n).length:=by rw[hu];show(zD n).toArray.size=_;simp
 have hc':∀w,zC zF 157 #[.string u] w λe w'=>∃nd,e=.returned (.tuple #[I n,St [],.bool true])/\w'=w.drewN nd:=by rw[hu];exact hc
 rw[<-hs];rw[<-hu] at s5;have h45:=s4 s2;have hsz1:(1:Int)<=s.size:=by omega
 have hlt:(u.size:Int)<s.size:=by omega
 have hn0:((n:Int)==0)=false:=by rw[beq_eq_false_iff_ne];omega
 have hnb:n<1000000000:=zS ((zaf n 8 (by omega)).1 hl) (by omega);have HC:=hid hc';clear hc hc' hs s3 s4 hu hus hl;go_enter Tryz.func112,Tryz.ntmps112;go_wp2_with fail;refine(HC.out _).mono ?_;rintro e w1 ⟨nd,rfl,rfl⟩;go_wp2_with fail;refine bodyPost_ret (v:=.tuple #[.agg #[.int .i64 (-(n:Int)),.int .i64 1],.bool true]) (by simp[results,Tryz.results112,go_sem]) rfl ⟨rfl,?_⟩
 repeat(first|exact zM _ _|refine Below.alloc ?_ (by simp[World.setCell,World.drewN]) _|refine zao ?_ _|refine Below.setCell ?_ (by simp) _)
theorem zpz (n d:Nat) (hl:(zD n).length<=8) (hl2:(zD d).length<=8) (hd:2<=d) (hg:Nat.gcd n d=1) (w:zA):
 qJ 112 #[St (zD n++47::zD d)] w (.tuple #[.agg #[I n,I d],.bool true]):=by
 obtain⟨s,hs⟩:∃s:ByteArray,s=⟨(zD n++47::zD d).toArray⟩:=⟨_,rfl⟩;obtain⟨s1,s2,s3,s4⟩:=zco (zD n++47::zD d) (by simp) s hs;obtain⟨r,hr⟩:∃r:ByteArray,r=⟨(47::zD d).toArray⟩:=⟨_,rfl⟩;obtain⟨r1,r2,r3,r4⟩:=zco (47::zD d) (by simp) r hr;have r5:r.extract 1 r.size=⟨(zD d).toArray⟩:=by rw[hr];exact ze9 _ _
 have hc:=zcn n (47::zD d) (zf3 n _) hl (by simp;omega);have hc2:=zcn d [] (zd7 d) hl2 (by simp);rw[yH] at hc2;have hgc:=λW=>zj0 n d (zS ((zaf n 8 (by omega)).1 hl) (by omega)) (zS ((zaf d 8 (by omega)).1 hl2) (by omega)) W;rw[hg] at hgc;show zC _ _ #[.string ⟨(zD n++47::zD d).toArray⟩] _ _;obtain⟨u,hu⟩:∃u:ByteArray,u=⟨(zD n++47::zD d).toArray⟩:=⟨_,rfl⟩;obtain⟨v,hv⟩:∃v:ByteArray,v=⟨(zD d).toArray⟩:=⟨_,rfl⟩;have hus:u.size=(zD n++47::zD d).length:=by rw[hu];show(zD n++47::zD d).toArray.size=_;simp
 have hc':∀w,zC zF 157 #[.string u] w λe w'=>∃nd,e=.returned (.tuple #[I n,.string r,.bool true])/\w'=w.drewN nd:=by rw[hu,hr];exact hc
 have hc2':∀w,zC zF 157 #[.string v] w λe w'=>∃nd,e=.returned (.tuple #[I d,St [],.bool true])/\w'=w.drewN nd:=by rw[hv];exact hc2
 rw[<-hs];rw[<-hv] at r5;have r47:(((r[0]'r2).toNat:Int) !=47)=false:=by rw[r4 r2];rfl
 have r1':(1:Int)<=r.size:=by omega
 obtain⟨c,q,hdn,hc1,hc2⟩:=dec_head n;have h45:(((s[0]'s2).toNat:Int)==45)=false:=by
  rw[beq_eq_false_iff_ne,s4 s2];simp only[hdn,yM,List.head_cons];omega
 have hsu:s=u:=hs.trans hu.symm;have hnb:n<1000000000:=zS ((zaf n 8 (by omega)).1 hl) (by omega);have hd2:¬(d:Int)<2:=by omega
 have HC:=hid hc';have HC2:=hid hc2';have HG:=hid hgc;clear hc hc' hc2 hc2' hgc hs hr r3 r4 hu hus hl hl2 hg hv s3 s4 hdn;subst hsu;go_enter Tryz.func112,Tryz.ntmps112;go_wp2_with fail;refine(HC.out _).mono ?_;rintro e w1 ⟨nd,rfl,rfl⟩;go_wp2_with fail;refine(HC2.out _).mono ?_;rintro e w1 ⟨nd2,rfl,rfl⟩;go_wp2_with fail;refine(HG.out _).mono ?_;rintro e w1 ⟨nd3,rfl,rfl⟩;go_wp2_with fail;refine bodyPost_ret (v:=.tuple #[.agg #[I n,I d],.bool true]) (by simp[results,Tryz.results112,go_sem]) rfl ⟨rfl,?_⟩
 repeat(first|exact zM _ _|refine Below.alloc ?_ (by simp[World.drewN]) _|refine zao ?_ _|refine Below.setCell ?_ (by simp) _)
theorem zmv (n d:Nat) (h0:0<n) (hl:(zD n).length<=8) (hl2:(zD d).length<=8) (hd:2<=d) (hg:Nat.gcd n d=1) (w:zA):
 qJ 112 #[St (45::(zD n++47::zD d))] w (.tuple #[.agg #[.int .i64 (-(n:Int)),I d],.bool true]):=by
 obtain⟨s,hs⟩:∃s:ByteArray,s=⟨(45::(zD n++47::zD d)).toArray⟩:=⟨_,rfl⟩;obtain⟨s1,s2,s3,s4,s5⟩:=zgu _ s hs;obtain⟨r,hr⟩:∃r:ByteArray,r=⟨(47::zD d).toArray⟩:=⟨_,rfl⟩;obtain⟨r1,r2,r3,r4⟩:=zco (47::zD d) (by simp) r hr;have r5:r.extract 1 r.size=⟨(zD d).toArray⟩:=by rw[hr];exact ze9 _ _
 have hc:=zcn n (47::zD d) (zf3 n _) hl (by simp;omega);have hc2:=zcn d [] (zd7 d) hl2 (by simp);rw[yH] at hc2;have hgc:=λW=>zj0 n d (zS ((zaf n 8 (by omega)).1 hl) (by omega)) (zS ((zaf d 8 (by omega)).1 hl2) (by omega)) W;rw[hg] at hgc;show zC _ _ #[.string ⟨(45::(zD n++47::zD d)).toArray⟩] _ _;obtain⟨u,hu⟩:∃u:ByteArray,u=⟨(zD n++47::zD d).toArray⟩:=⟨_,rfl⟩;obtain⟨v,hv⟩:∃v:ByteArray,v=⟨(zD d).toArray⟩:=⟨_,rfl⟩;have hus:u.size=(zD n++47::zD d).length:=by rw[hu];show(zD n++47::zD d).toArray.size=_;simp
 have hc':∀w,zC zF 157 #[.string u] w λe w'=>∃nd,e=.returned (.tuple #[I n,.string r,.bool true])/\w'=w.drewN nd:=by rw[hu,hr];exact hc
 have hc2':∀w,zC zF 157 #[.string v] w λe w'=>∃nd,e=.returned (.tuple #[I d,St [],.bool true])/\w'=w.drewN nd:=by rw[hv];exact hc2
 rw[<-hs];rw[<-hv] at r5;have r47:(((r[0]'r2).toNat:Int) !=47)=false:=by rw[r4 r2];rfl
 have r1':(1:Int)<=r.size:=by omega
 rw[<-hu] at s5;have h45:=s4 s2;have hsz1:(1:Int)<=s.size:=by omega
 have hlt:(u.size:Int)<s.size:=by omega
 have hn0:((n:Int)==0)=false:=by rw[beq_eq_false_iff_ne];omega
 have hnb:n<1000000000:=zS ((zaf n 8 (by omega)).1 hl) (by omega);have hd2:¬(d:Int)<2:=by omega
 have HC:=hid hc';have HC2:=hid hc2';have HG:=hid hgc;clear hc hc' hc2 hc2' hgc hs hr r3 r4 hu hus hl hl2 hg hv s3 s4;go_enter Tryz.func112,Tryz.ntmps112;go_wp2_with fail;refine(HC.out _).mono ?_;rintro e w1 ⟨nd,rfl,rfl⟩;go_wp2_with fail;refine(HC2.out _).mono ?_;rintro e w1 ⟨nd2,rfl,rfl⟩;go_wp2_with fail;refine(HG.out _).mono ?_;rintro e w1 ⟨nd3,rfl,rfl⟩;go_wp2_with fail;refine bodyPost_ret (v:=.tuple #[.agg #[.int .i64 (-(n:Int)),I d],.bool true]) (by simp[results,Tryz.results112,go_sem]) rfl ⟨rfl,?_⟩
 repeat(first|exact zM _ _|refine Below.alloc ?_ (by simp[World.drewN]) _|refine zao ?_ _|refine Below.setCell ?_ (by simp) _)
theorem zp0 (n:Nat) (t:List UInt8) (hr:Runs (zD n) t) (hl:8<(zD n).length) (hl2:(zD n).length<=1000000) (ht:t.length<=1000000) (w:zA):
 qJ 112 #[St (zD n++t)] w (.tuple #[.agg #[.int .i64 0,.int .i64 0],.bool false]):=by
 obtain⟨s,hs⟩:∃s:ByteArray,s=⟨(zD n++t).toArray⟩:=⟨_,rfl⟩;obtain⟨s1,s2,s3,s4⟩:=zco (zD n++t) (by simp[zci]) s hs;have hc:=zf2 n t hr hl hl2 ht;show zC _ _ #[.string ⟨(zD n++t).toArray⟩] _ _;have hc':∀w,zC zF 157 #[.string s] w λe w'=>e=.returned (.tuple #[.int .i64 0,St [],.bool false])/\w'=w:=by rw[hs];exact hc
 rw[<-hs];obtain⟨c,q,hdn,hc1,hc2⟩:=dec_head n;have h45:(((s[0]'s2).toNat:Int)==45)=false:=by
  rw[beq_eq_false_iff_ne,s4 s2];simp only[hdn,yM,List.head_cons];omega
 have HC:=hid hc';clear hc hc' hs s3 s4 hdn hl hl2 hr;go_enter Tryz.func112,Tryz.ntmps112;go_wp2_with fail;refine(HC.out _).mono ?_;rintro e w1 ⟨rfl,rfl⟩;go_wp2_with fail;refine bodyPost_ret (v:=.tuple #[.agg #[.int .i64 0,.int .i64 0],.bool false]) (by simp[results,Tryz.results112,go_sem]) rfl ⟨rfl,?_⟩
 repeat(first|exact zM _ _|refine Below.alloc ?_ (by simp) _|refine zao ?_ _|refine Below.setCell ?_ (by simp) _)
theorem zmw (n:Nat) (t:List UInt8) (hr:Runs (zD n) t) (hl:8<(zD n).length) (hl2:(zD n).length<=1000000) (ht:t.length<=1000000) (w:zA):
 qJ 112 #[St (45::(zD n++t))] w (.tuple #[.agg #[.int .i64 0,.int .i64 0],.bool false]):=by
 obtain⟨s,hs⟩:∃s:ByteArray,s=⟨(45::(zD n++t)).toArray⟩:=⟨_,rfl⟩;obtain⟨s1,s2,s3,s4,s5⟩:=zgu _ s hs;have hc:=zf2 n t hr hl hl2 ht;show zC _ _ #[.string ⟨(45::(zD n++t)).toArray⟩] _ _;obtain⟨u,hu⟩:∃u:ByteArray,u=⟨(zD n++t).toArray⟩:=⟨_,rfl⟩;have hus:u.size=(zD n++t).length:=by rw[hu];show(zD n++t).toArray.size=_;simp
 have hc':∀w,zC zF 157 #[.string u] w λe w'=>e=.returned (.tuple #[.int .i64 0,St [],.bool false])/\w'=w:=by rw[hu];exact hc
 rw[<-hs];rw[<-hu] at s5;have h45:=s4 s2;have hsz1:(1:Int)<=s.size:=by omega
 have hlt:(u.size:Int)<s.size:=by omega
 have HC:=hid hc';clear hc hc' hs s3 s4 hu hus hl hl2 hr;go_enter Tryz.func112,Tryz.ntmps112;go_wp2_with fail;refine(HC.out _).mono ?_;rintro e w1 ⟨rfl,rfl⟩;go_wp2_with fail;refine bodyPost_ret (v:=.tuple #[.agg #[.int .i64 0,.int .i64 0],.bool false]) (by simp[results,Tryz.results112,go_sem]) rfl ⟨rfl,?_⟩
 repeat(first|exact zM _ _|refine Below.alloc ?_ (by simp) _|refine zao ?_ _|refine Below.setCell ?_ (by simp) _)
theorem zlz (n d:Nat) (hl:(zD n).length<=8) (hl2:8<(zD d).length) (hl3:(zD d).length<=900000) (w:zA):
 qJ 112 #[St (zD n++47::zD d)] w (.tuple #[.agg #[.int .i64 0,.int .i64 0],.bool false]):=by
 obtain⟨s,hs⟩:∃s:ByteArray,s=⟨(zD n++47::zD d).toArray⟩:=⟨_,rfl⟩;obtain⟨s1,s2,s3,s4⟩:=zco (zD n++47::zD d) (by simp) s hs;obtain⟨r,hr⟩:∃r:ByteArray,r=⟨(47::zD d).toArray⟩:=⟨_,rfl⟩;obtain⟨r1,r2,r3,r4⟩:=zco (47::zD d) (by simp) r hr;have r5:r.extract 1 r.size=⟨(zD d).toArray⟩:=by rw[hr];exact ze9 _ _
 have hc:=zcn n (47::zD d) (zf3 n _) hl (by simp;omega);have hc2:=zf2 d [] (zd7 d) hl2 (by omega) (by simp);rw[yH] at hc2;show zC _ _ #[.string ⟨(zD n++47::zD d).toArray⟩] _ _;obtain⟨u,hu⟩:∃u:ByteArray,u=⟨(zD n++47::zD d).toArray⟩:=⟨_,rfl⟩;obtain⟨v,hv⟩:∃v:ByteArray,v=⟨(zD d).toArray⟩:=⟨_,rfl⟩;have hus:u.size=(zD n++47::zD d).length:=by rw[hu];show(zD n++47::zD d).toArray.size=_;simp
 have hc':∀w,zC zF 157 #[.string u] w λe w'=>∃nd,e=.returned (.tuple #[I n,.string r,.bool true])/\w'=w.drewN nd:=by rw[hu,hr];exact hc
 have hc2':∀w,zC zF 157 #[.string v] w λe w'=>e=.returned (.tuple #[.int .i64 0,St [],.bool false])/\w'=w:=by rw[hv];exact hc2
 rw[<-hs];rw[<-hv] at r5;have r47:(((r[0]'r2).toNat:Int) !=47)=false:=by rw[r4 r2];rfl
 have r1':(1:Int)<=r.size:=by omega
 obtain⟨c,q,hdn,hc1,hc2⟩:=dec_head n;have h45:(((s[0]'s2).toNat:Int)==45)=false:=by
  rw[beq_eq_false_iff_ne,s4 s2];simp only[hdn,yM,List.head_cons];omega
 have hsu:s=u:=hs.trans hu.symm;have hnb:n<1000000000:=zS ((zaf n 8 (by omega)).1 hl) (by omega);have HC:=hid hc';have HC2:=hid hc2';clear hc hc' hc2 hc2' hs hr r3 r4 hu hus hl hl2 hl3 hv s3 s4 hdn;subst hsu;go_enter Tryz.func112,Tryz.ntmps112;go_wp2_with fail;refine(HC.out _).mono ?_;rintro e w1 ⟨nd,rfl,rfl⟩;go_wp2_with fail;refine(HC2.out _).mono ?_;rintro e w1 ⟨rfl,rfl⟩;go_wp2_with fail;refine bodyPost_ret (v:=.tuple #[.agg #[.int .i64 0,.int .i64 0],.bool false]) (by simp[results,Tryz.results112,go_sem]) rfl ⟨rfl,?_⟩
 repeat(first|exact zM _ _|refine Below.alloc ?_ (by simp[World.setCell,World.drewN]) _|refine zao ?_ _|refine Below.setCell ?_ (by simp) _)
theorem zj1 (n d:Nat) (h0:0<n) (hl:(zD n).length<=8) (hl2:8<(zD d).length) (hl3:(zD d).length<=900000) (w:zA):
 qJ 112 #[St (45::(zD n++47::zD d))] w (.tuple #[.agg #[.int .i64 0,.int .i64 0],.bool false]):=by
 obtain⟨s,hs⟩:∃s:ByteArray,s=⟨(45::(zD n++47::zD d)).toArray⟩:=⟨_,rfl⟩;obtain⟨s1,s2,s3,s4,s5⟩:=zgu _ s hs;obtain⟨r,hr⟩:∃r:ByteArray,r=⟨(47::zD d).toArray⟩:=⟨_,rfl⟩;obtain⟨r1,r2,r3,r4⟩:=zco (47::zD d) (by simp) r hr;have r5:r.extract 1 r.size=⟨(zD d).toArray⟩:=by rw[hr];exact ze9 _ _
 have hc:=zcn n (47::zD d) (zf3 n _) hl (by simp;omega);have hc2:=zf2 d [] (zd7 d) hl2 (by omega) (by simp);rw[yH] at hc2;show zC _ _ #[.string ⟨(45::(zD n++47::zD d)).toArray⟩] _ _;obtain⟨u,hu⟩:∃u:ByteArray,u=⟨(zD n++47::zD d).toArray⟩:=⟨_,rfl⟩;obtain⟨v,hv⟩:∃v:ByteArray,v=⟨(zD d).toArray⟩:=⟨_,rfl⟩;have hus:u.size=(zD n++47::zD d).length:=by rw[hu];show(zD n++47::zD d).toArray.size=_;simp
 have hc':∀w,zC zF 157 #[.string u] w λe w'=>∃nd,e=.returned (.tuple #[I n,.string r,.bool true])/\w'=w.drewN nd:=by rw[hu,hr];exact hc
 have hc2':∀w,zC zF 157 #[.string v] w λe w'=>e=.returned (.tuple #[.int .i64 0,St [],.bool false])/\w'=w:=by rw[hv];exact hc2
 rw[<-hs];rw[<-hv] at r5;have r47:(((r[0]'r2).toNat:Int) !=47)=false:=by rw[r4 r2];rfl
 have r1':(1:Int)<=r.size:=by omega
 rw[<-hu] at s5;have h45:=s4 s2;have hsz1:(1:Int)<=s.size:=by omega
 have hlt:(u.size:Int)<s.size:=by omega
 have hn0:((n:Int)==0)=false:=by rw[beq_eq_false_iff_ne];omega
 have hnb:n<1000000000:=zS ((zaf n 8 (by omega)).1 hl) (by omega);have HC:=hid hc';have HC2:=hid hc2';clear hc hc' hc2 hc2' hs hr r3 r4 hu hus hl hl2 hl3 hv s3 s4;go_enter Tryz.func112,Tryz.ntmps112;go_wp2_with fail;refine(HC.out _).mono ?_;rintro e w1 ⟨nd,rfl,rfl⟩;go_wp2_with fail;refine(HC2.out _).mono ?_;rintro e w1 ⟨rfl,rfl⟩;go_wp2_with fail;refine bodyPost_ret (v:=.tuple #[.agg #[.int .i64 0,.int .i64 0],.bool false]) (by simp[results,Tryz.results112,go_sem]) rfl ⟨rfl,?_⟩
 repeat(first|exact zM _ _|refine Below.alloc ?_ (by simp[World.setCell,World.drewN]) _|refine zao ?_ _|refine Below.setCell ?_ (by simp) _)
def zbb (q:Rat):Prop:=digs q.num<=8/\(zD q.den).length<=8
theorem zq8 {q:Rat} (h:0<=q.num):numS q=zD q.num.natAbs++(if q.den=1 then[] else 47::zD q.den):=by
 rcases zbg q.num with⟨_,e⟩|⟨h',_⟩
 ·unfold numS;rw[e]
 ·omega
theorem zq9 {q:Rat} (h:q.num<0):numS q=45::(zD q.num.natAbs++(if q.den=1 then[] else 47::zD q.den)):=by
 rcases zbg q.num with⟨h',_⟩|⟨_,e⟩
 ·omega
 ·unfold numS;rw[e];rfl
theorem zbm (q:Rat) (h:zbb q) (w:zA):
 qJ 112 #[St (numS q)] w (.tuple #[.agg #[.int .i64 q.num,I q.den],.bool true]):=by
 obtain⟨h1,h2⟩:=h;have h1:(zD q.num.natAbs).length<=8:=h1;have hd0:=q.den_nz;rcases Int.lt_or_le q.num 0 with hn|hn
 ·rw[zq9 hn]
  have hv:q.num= -(q.num.natAbs:Int):=by omega
  by_cases hd:q.den=1
  ·rw[if_pos hd,yH,hd]
   have:=zq7 q.num.natAbs (by omega) h1 w;rw[<-hv] at this;exact this
  ·rw[if_neg hd]
   have:=zmv q.num.natAbs q.den (by omega) h1 h2 (by omega) q.reduced w;rw[<-hv] at this;exact this
 ·rw[zq8 hn]
  have hv:I q.num.natAbs=.int .i64 q.num:=by show Value.int .i64 _=Value.int .i64 _;congr 1;omega
  by_cases hd:q.den=1
  ·rw[if_pos hd,yH,hd]
   have:=zq6 q.num.natAbs h1 w;rw[hv] at this;exact this
  ·rw[if_neg hd]
   have:=zpz q.num.natAbs q.den h1 h2 (by omega) q.reduced w;rw[hv] at this;exact this
theorem zb5 (q:Rat) (h:¬zbb q) (hl:digs q.num<=800000) (hl2:(zD q.den).length<=800000) (w:zA):
 qJ 112 #[St (numS q)] w (.tuple #[.agg #[.int .i64 0,.int .i64 0],.bool false]):=by
 have hl:(zD q.num.natAbs).length<=800000:=hl;have hr:Runs (zD q.num.natAbs) (if q.den=1 then[] else 47::zD q.den):=by
  split
  ·exact zd7 _
  ·exact zf3 _ _
 have ht:(if q.den=1 then[] else 47::zD q.den:List UInt8).length<=1000000:=by split<;>simp;omega
 have hd1:q.den=1->(zD q.den).length<=8:=λe=>by rw[e,zae (by omega)];simp
 rcases Int.lt_or_le q.num 0 with hn|hn
 ·rw[zq9 hn]
  by_cases h1:(zD q.num.natAbs).length<=8
  ·have h2:8<(zD q.den).length:=by
    rcases Nat.lt_or_ge 8 (zD q.den).length with h'|h'
    ·exact h'
    ·exact absurd ⟨h1,h'⟩ h
   have hd:q.den≠1:=λe=>by have:=hd1 e;omega
   rw[if_neg hd];exact zj1 _ _ (by omega) h1 h2 (by omega) w
  ·exact zmw _ _ hr (by omega) (by omega) ht w
 ·rw[zq8 hn]
  by_cases h1:(zD q.num.natAbs).length<=8
  ·have h2:8<(zD q.den).length:=by
    rcases Nat.lt_or_ge 8 (zD q.den).length with h'|h'
    ·exact h'
    ·exact absurd ⟨h1,h'⟩ h
   have hd:q.den≠1:=λe=>by have:=hd1 e;omega
   rw[if_neg hd];exact zlz _ _ h1 h2 (by omega) w
  ·exact zp0 _ _ hr (by omega) (by omega) ht w
theorem znl (n:Int) (D:Nat) (hD:0<D):∃(g qd:Nat) (qn:Int),g=Nat.gcd n.natAbs D/\0<g/\g<=D/\n.tdiv g=qn/\D/g=qd/\((D:Int).tdiv g)=(qd:Int)/\qn.natAbs<=n.natAbs/\qd<=D/\numS (Rat.divInt n D)=zE qn++(if qd=1 then[] else 47::zE (qd:Int)):=by
 have hg:0<Nat.gcd n.natAbs D:=Nat.gcd_pos_of_pos_right _ hD;have hm:=zif n (D:Int) (by omega);have e1:Int.gcd n (D:Int)=Nat.gcd n.natAbs D:=by unfold Int.gcd;rw[Int.natAbs_natCast]
 rw[e1] at hm;have hdv:((Nat.gcd n.natAbs D:Nat):Int)∣n:=Int.ofNat_dvd_left.2 (Nat.gcd_dvd_left _ _);have e2:n.tdiv (Nat.gcd n.natAbs D:Nat)=n/(Nat.gcd n.natAbs D:Nat):=Int.tdiv_eq_ediv_of_dvd hdv;refine⟨_,_,_,rfl,hg,Nat.le_of_dvd hD (Nat.gcd_dvd_right _ _),rfl,rfl,?_,?_,Nat.div_le_self _ _,?_⟩
 ·rw[Int.tdiv_eq_ediv_of_nonneg (by omega),Int.natCast_ediv]
 ·rw[Int.natAbs_tdiv,Int.natAbs_natCast];exact Nat.div_le_self _ _
 ·rw[hm,e2,Int.natCast_ediv]
  congr 1;by_cases h:D/Nat.gcd n.natAbs D=1
  ·rw[if_pos h,if_pos (by rw[<-Int.natCast_ediv,h];rfl)]
  ·rw[if_neg h,if_neg (by rw[<-Int.natCast_ediv];omega)]
theorem zij (x:Int) (h: -1000000000000000000<x/\x<1000000000000000000):(zE x).length<=20:=by
 have h1:=za7 x;have h2:=zbf (z:=x) (by omega);omega
theorem zt6 (a b c:List UInt8):((⟨a.toArray⟩:ByteArray)++(⟨b.toArray⟩:ByteArray))++(⟨c.toArray⟩:ByteArray)=⟨(a++b++c).toArray⟩:=by
 apply ByteArray.ext;simp
theorem zik (a b:List UInt8):Value.string ((⟨a.toArray⟩:ByteArray)++(⟨#[47]⟩:ByteArray)++(⟨b.toArray⟩:ByteArray))=St (a++47::b):=by
 rw[show(⟨#[47]⟩:ByteArray)=⟨([47]:List UInt8).toArray⟩ from rfl,zt6,List.append_assoc];rfl
theorem zu0 (n:Int) (D:Nat) (hD:0<D) (hn: -100000000000000000<n/\n<100000000000000000) (hD2:D<100000000000000000) (w:zA) (hw:Wd w):
 qJ 113 #[.agg #[.int .i64 n,I D]] w (St (numS (Rat.divInt n D))):=by
 obtain⟨g,qd,qn,hg,hg0,hgD,hqn,hqd,hqd',hqa,hqb,hm⟩:=znl n D hD;obtain⟨n1,n2⟩:=hn;rw[hm];have hgc:=λW=>zj0 n.natAbs D (by omega) (by omega) W;rw[<-hg] at hgc;have hmax:max n (-n)=((n.natAbs:Nat):Int):=by omega
 have w1:IntKind.i64.wrap (n.tdiv (g:Int))=qn:=by rw[hqn];exact zI _ (by omega)
 have w2:IntKind.i64.wrap ((D:Int)/(g:Int))=(qd:Int):=by rw[<-Int.tdiv_eq_ediv_of_nonneg (by omega),hqd'];exact zI _ (by omega)
 have w3:IntKind.i64.wrap (-n)= -n:=zI _ (by omega);have hg1:¬g=0:=by omega
 have hi1:=λW hW=>zb3 qn (by omega) (by omega) W hW;have hi2:=λW hW=>zb3 (qd:Int) (by omega) (by omega) W hW;obtain⟨s1,hs1⟩:∃s1:ByteArray,s1=⟨(zE qn).toArray⟩:=⟨_,rfl⟩;obtain⟨s2,hs2⟩:∃s2:ByteArray,s2=⟨(zE (qd:Int)).toArray⟩:=⟨_,rfl⟩;have hz1:s1.size<=20:=by rw[hs1];show(zE qn).toArray.size<=20;have:=zij qn (by omega);simpa using this
 have hz2:s2.size<=20:=by rw[hs2];show(zE (qd:Int)).toArray.size<=20;have:=zij (qd:Int) (by omega);simpa using this
 rw[<-hs1] at hi1;rw[<-hs2] at hi2;have HS1:=hid hs1;have HS2:=hid hs2;clear hs1 hs2;have HGC:=hid hgc;have HI1:=hid hi1;have HI2:=hid hi2;have HW:=hid hw;have W1:=hid w1;have W2:=hid w2;have hqa': -100000000000000000<qn/\qn<100000000000000000:=by omega
 clear hg hqn hqd hqd' hqa hm hgc w1 w2 hi1 hi2 hw;by_cases h1:qd=1
 ·have hb1:((qd:Int)==1)=true:=by rw[beq_iff_eq];omega
  rw[if_pos h1,yH];clear h1;go_enter Tryz.func113,Tryz.ntmps113;go_wp2_with fail;refine(HGC.out _).mono ?_;rintro e w4 ⟨nd,rfl,rfl⟩;have w1:=W1.out;have w2:=W2.out;go_wp2_with fail
  (refine wp_region_quiet_lit (by kernel_rfl) (by kernel_rfl) (WQ.out ?_);(repeat(first|(apply WQ.read (by rfl);(focus(rintro W ⟨n,rfl⟩;go_simp;try with_reducible rfl));try simp only[zzQ])|(apply WQ.skip (by rfl);try simp only[zzQ])));refine WQ.nil ?_;rintro _ ⟨nq,rfl⟩)
  clear w1 w2;go_wp2_with fail;have hB:=zao ((zM _ w).alloc (zN _) (.cells #[.int .i64 n,I D] 117)) (nd+nq);refine(HI1.out _ (HW.out.below hB)).mono ?_;rintro e w5 ⟨rfl,hb5⟩;have hB5:=hB.trans (hb5.mono hB.size);clear hb5 hB;go_wp2_with fail;go_ret;exact⟨by rw[HS1.out];rfl,hB5⟩
 ·have hb1:((qd:Int)==1)=false:=by rw[beq_eq_false_iff_ne];omega
  rw[if_neg h1];clear h1;go_enter Tryz.func113,Tryz.ntmps113;go_wp2_with fail;refine(HGC.out _).mono ?_;rintro e w4 ⟨nd,rfl,rfl⟩;have w1:=W1.out;have w2:=W2.out;go_wp2_with fail
  (refine wp_region_quiet_lit (by kernel_rfl) (by kernel_rfl) (WQ.out ?_);(repeat(first|(apply WQ.read (by rfl);(focus(rintro W ⟨n,rfl⟩;go_simp;try with_reducible rfl));try simp only[zzQ])|(apply WQ.skip (by rfl);try simp only[zzQ])));refine WQ.nil ?_;rintro _ ⟨nq,rfl⟩)
  clear w1 w2;go_wp2_with fail;have hB:=zao ((zM _ w).alloc (zN _) (.cells #[.int .i64 n,I D] 117)) (nd+nq);refine(HI1.out _ (HW.out.below hB)).mono ?_;rintro e w5 ⟨rfl,hb5⟩;have hB5:=hB.trans (hb5.mono hB.size);clear hb5 hB;go_wp2_with fail;refine(HI2.out _ (HW.out.below hB5)).mono ?_;rintro e w6 ⟨rfl,hb6⟩;have hB6:=hB5.trans (hb6.mono hB5.size);clear hb6 hB5;go_wp2_with fail;go_ret;refine⟨?_,hB6⟩;rw[HS1.out,HS2.out];exact zv6 (zik _ _)
theorem zu1 (n:Int) (D:Nat) (hD:0<D) (hn: -100000000000000000<n/\n<100000000000000000) (hD2:D<100000000000000000) (w:zA) (hw:Wd w):
 qJ 113 #[.agg #[.int .i64 n,.int .i64 (-(D:Int))]] w (St (numS (Rat.divInt (-n) D))):=by
 obtain⟨g,qd,qn,hg,hg0,hgD,hqn,hqd,hqd',hqa,hqb,hm⟩:=znl (-n) D hD;obtain⟨n1,n2⟩:=hn;rw[hm];have hgc:=λW=>zj0 n.natAbs D (by omega) (by omega) W;rw[Int.natAbs_neg] at hg;rw[<-hg] at hgc;have hmax:max (-n) n=((n.natAbs:Nat):Int):=by omega
 have w4:IntKind.i64.wrap n=n:=zI _ (by omega);have hqi: -(n.tdiv (g:Int))=qn:=by rw[<-hqn,Int.neg_tdiv]
 have w1:IntKind.i64.wrap (-(n.tdiv (g:Int)))=qn:=by rw[hqi];exact zI _ (by omega)
 have w1':IntKind.i64.wrap ((-n).tdiv (g:Int))=qn:=by rw[hqn];exact zI _ (by omega)
 have w2:IntKind.i64.wrap ((D:Int)/(g:Int))=(qd:Int):=by rw[<-Int.tdiv_eq_ediv_of_nonneg (by omega),hqd'];exact zI _ (by omega)
 have w3:IntKind.i64.wrap (-n)= -n:=zI _ (by omega);have hg1:¬g=0:=by omega
 have hi1:=λW hW=>zb3 qn (by omega) (by omega) W hW;have hi2:=λW hW=>zb3 (qd:Int) (by omega) (by omega) W hW;obtain⟨s1,hs1⟩:∃s1:ByteArray,s1=⟨(zE qn).toArray⟩:=⟨_,rfl⟩;obtain⟨s2,hs2⟩:∃s2:ByteArray,s2=⟨(zE (qd:Int)).toArray⟩:=⟨_,rfl⟩;have hz1:s1.size<=20:=by rw[hs1];show(zE qn).toArray.size<=20;have:=zij qn (by omega);simpa using this
 have hz2:s2.size<=20:=by rw[hs2];show(zE (qd:Int)).toArray.size<=20;have:=zij (qd:Int) (by omega);simpa using this
 rw[<-hs1] at hi1;rw[<-hs2] at hi2;have HS1:=hid hs1;have HS2:=hid hs2;clear hs1 hs2;have HGC:=hid hgc;have HI1:=hid hi1;have HI2:=hid hi2;have HW:=hid hw;have W1':=hid w1';have W1:=hid w1;have W2:=hid w2;have hqa': -100000000000000000<qn/\qn<100000000000000000:=by omega
 clear hg hqn hqd hqd' hqa hm hgc hqi w1 w1' w2 hi1 hi2 hw;by_cases h1:qd=1
 ·have hb1:((qd:Int)==1)=true:=by rw[beq_iff_eq];omega
  rw[if_pos h1,yH];clear h1;go_enter Tryz.func113,Tryz.ntmps113;go_wp2_with fail;refine(HGC.out _).mono ?_;rintro e w4 ⟨nd,rfl,rfl⟩;have w1:=W1.out;have w1':=W1'.out;have w2:=W2.out;go_wp2_with fail
  (refine wp_region_quiet_lit (by kernel_rfl) (by kernel_rfl) (WQ.out ?_);(repeat(first|(apply WQ.read (by rfl);(focus(rintro W ⟨n,rfl⟩;go_simp;try with_reducible rfl));try simp only[zzQ])|(apply WQ.skip (by rfl);try simp only[zzQ])));refine WQ.nil ?_;rintro _ ⟨nq,rfl⟩)
  clear w1 w1' w2;go_wp2_with fail;have hB:=zao ((zM _ w).alloc (zN _) (.cells #[.int .i64 (-n),I D] 117)) (nd+nq);refine(HI1.out _ (HW.out.below hB)).mono ?_;rintro e w5 ⟨rfl,hb5⟩;have hB5:=hB.trans (hb5.mono hB.size);clear hb5 hB;go_wp2_with fail;go_ret;exact⟨by rw[HS1.out];rfl,hB5⟩
 ·have hb1:((qd:Int)==1)=false:=by rw[beq_eq_false_iff_ne];omega
  rw[if_neg h1];clear h1;go_enter Tryz.func113,Tryz.ntmps113;go_wp2_with fail;refine(HGC.out _).mono ?_;rintro e w4 ⟨nd,rfl,rfl⟩;have w1:=W1.out;have w1':=W1'.out;have w2:=W2.out;go_wp2_with fail
  (refine wp_region_quiet_lit (by kernel_rfl) (by kernel_rfl) (WQ.out ?_);(repeat(first|(apply WQ.read (by rfl);(focus(rintro W ⟨n,rfl⟩;go_simp;try with_reducible rfl));try simp only[zzQ])|(apply WQ.skip (by rfl);try simp only[zzQ])));refine WQ.nil ?_;rintro _ ⟨nq,rfl⟩)
  clear w1 w1' w2;go_wp2_with fail;have hB:=zao ((zM _ w).alloc (zN _) (.cells #[.int .i64 (-n),I D] 117)) (nd+nq);refine(HI1.out _ (HW.out.below hB)).mono ?_;rintro e w5 ⟨rfl,hb5⟩;have hB5:=hB.trans (hb5.mono hB.size);clear hb5 hB;go_wp2_with fail;refine(HI2.out _ (HW.out.below hB5)).mono ?_;rintro e w6 ⟨rfl,hb6⟩;have hB6:=hB5.trans (hb6.mono hB5.size);clear hb6 hB5;go_wp2_with fail;go_ret;refine⟨?_,hB6⟩;rw[HS1.out,HS2.out];exact zv6 (zik _ _)
theorem zjd (n d:Int) (hd:d<0):Rat.divInt n d=Rat.divInt (-n) ((d.natAbs:Nat):Int):=by
 rw[zes _ _ (by omega),if_pos hd,zes _ _ (by omega),if_neg (by omega),Int.natAbs_natCast]
theorem zd8 (n d:Int) (hd:d≠0) (hn: -100000000000000000<n/\n<100000000000000000) (hd2: -100000000000000000<d/\d<100000000000000000) (w:zA) (hw:Wd w):
 qJ 113 #[.agg #[.int .i64 n,.int .i64 d]] w (St (numS (Rat.divInt n d))):=by
 rcases Int.lt_or_gt_of_ne hd with h|h
 ·obtain⟨D,rfl⟩:∃D:Nat,d= -(D:Int):=⟨d.natAbs,by omega⟩
  rw[zjd _ _ h,show((-(D:Int)).natAbs)=D by omega];exact zu1 n D (by omega) hn (by omega) w hw
 ·obtain⟨D,rfl⟩:∃D:Nat,d=(D:Int):=⟨d.natAbs,by omega⟩
  exact zu0 n D (by omega) hn (by omega) w hw
theorem ziv (n:Nat) (hl:(zD n).length<=1000000) (w:zA):
 zC zF 216 #[St (zD n)] w λe w'=>e=.returned (I (zD n).length)/\w'=w:=by
 obtain⟨s,hs⟩:∃s:ByteArray,s=⟨(zD n++[]).toArray⟩:=⟨_,rfl⟩;obtain⟨b1,b2, -⟩:=zii (zd7 n) s hs;have hzero:(zD n).length<=1\/∀hb:0<s.size,(s[0]'hb).toNat≠48:=zjz n [] s hs;have hb2:∀k (hb:k<s.size),48<=(s[k]'hb).toNat/\(s[k]'hb).toNat<=57:=λk hb=>⟨(b2 k (by simp at b1;omega) hb).1,(b2 k (by simp at b1;omega) hb).2.1⟩;rw[yH] at hs;have hlen:(zD n).length=s.size:=by rw[b1];simp
 show zC _ _ #[.string ⟨(zD n).toArray⟩] _ _;rw[hlen] at hl hzero⊢;rw[<-hs];have B2:=hid hb2;clear b1 b2 hb2 hs hlen;go_enter Tryz.func216,Tryz.ntmps216;go_wp2;go_loop [3] (λi=>∃k:Nat,k<=s.size/\i=.int .i64 k) (λi=>s.size-(zL i).toNat)
 case atStart=>exact⟨0,zR _,rfl⟩
 case round=>
  obtain⟨k,hk,rfl⟩:=hrel;by_cases hlt:k<s.size
  ·obtain⟨c1,c2⟩:=B2.out k hlt
   have d1:(48:Int)<=(s[k].toNat:Int):=by omega
   have d2:(s[k].toNat:Int)<=57:=by omega
   go_wp2;go_round
   case rel=>exact⟨k+1,by omega,by go_num⟩
   case measure=>simp[zL];omega
  ·obtain⟨q,hq⟩:∃q,q=s.size:=⟨_,rfl⟩
   have hkq:k=q:=by omega
   subst hkq;have HQ:=hid hq;clear hq;rcases hzero with h1|h1
   ·have h1':¬(1:Int)<k:=by have:=HQ.out;omega
    go_wp2;go_ret;exact⟨show Ending.returned (I k)=.returned (I s.size) from by rw[<-HQ.out],rfl⟩
   ·by_cases h2:1<k
    ·have h2':(1:Int)<k:=by omega
     have hs0:0<s.size:=by omega
     have h3:(((s[0]'hs0).toNat:Int)==48)=false:=by rw[beq_eq_false_iff_ne];have:=h1 hs0;omega
     clear h1;go_wp2;go_ret;exact⟨show Ending.returned (I k)=.returned (I s.size) from by rw[<-HQ.out],rfl⟩
    ·have h1':¬(1:Int)<k:=by omega
     clear h1;go_wp2;go_ret;exact⟨show Ending.returned (I k)=.returned (I s.size) from by rw[<-HQ.out],rfl⟩
theorem z1l (a b:List UInt8) (h:(47:UInt8)∉a):cut (a++47::b) [47]=(a,b,true):=by
 have hi:index (a++47::b) [47]=(a.length:Int):=by
  refine index_first (by simp) (by simp[occAt]) λj hj=>?_;rw[Bool.eq_false_iff];intro hc;have:=occAt_head rfl hc;rw[List.getElem?_append_left hj] at this;exact h (List.mem_of_getElem? this)
 unfold cut;rw[hi,if_pos (by omega)];simp
theorem z2u (a:List UInt8) (h:(47:UInt8)∉a):cut a [47]=(a,[],false):=by
 have hi:index a [47]= -1:=by
  refine index_none λj hj=>?_;rw[Bool.eq_false_iff];intro hc;exact h (List.mem_of_getElem? (occAt_head rfl hc))
 unfold cut;rw[hi,if_neg (by omega)]
theorem zra (q:Rat):cut (numS q) [47]=(zE q.num,(if q.den=1 then[] else zD q.den),decide (q.den≠1)):=by
 by_cases h:q.den=1
 ·rw[zmu h,z2u _ (zfe _),if_pos h];simp[h]
 ·rw[zid h,z1l _ _ (zfe _),if_neg h];simp[h]
theorem zhl {n:Nat} {s:ByteArray} (hs:s=⟨(zD n).toArray⟩) (k:Nat) (hk:k<10) (h:n≠k):(s.toList==[UInt8.ofNat (48+k)])=false:=by
 rw[beq_eq_false_iff_ne,hs,ByteArray.toList_eq,<-zae hk];intro e;exact h (zfk (by simpa using e))
theorem zfo {l:List UInt8} {s:ByteArray} (hs:s=⟨l.toArray⟩):s.toList=l:=by rw[hs,ByteArray.toList_eq]
theorem zy7 (q:Rat) (hq:q.den≠1) (hl:digs q.num<=800000) (hl2:(zD q.den).length<=800000) (w:zA) (hw:Wd w):
 qJ 159 #[St (numS q)] w (.tuple #[.agg #[St (zE q.num),St (zD q.den)],.bool true]):=by
 have hl:(zD q.num.natAbs).length<=800000:=hl;obtain⟨s,hs⟩:∃s:ByteArray,s=⟨(numS q).toArray⟩:=⟨_,rfl⟩;obtain⟨sn,hsn⟩:∃s:ByteArray,s=⟨(zE q.num).toArray⟩:=⟨_,rfl⟩;obtain⟨sd,hsd⟩:∃s:ByteArray,s=⟨(zD q.den).toArray⟩:=⟨_,rfl⟩;obtain⟨own,hown⟩:∃s:ByteArray,s=⟨(zD q.num.natAbs).toArray⟩:=⟨_,rfl⟩;have hssz:s.size<4294967281:=by
  rw[hs];show(numS q).toArray.size<_;have h1:=za7 q.num;unfold digs at h1;unfold numS;rw[if_neg hq];simp;omega
 have hcut:∀W:zA,Wd W->zC zF 215 #[.string s,.string ⟨#[47]⟩] W λe w'=>e=.returned (.tuple #[.string sn,.string sd,.bool true])/\∃n,w'=W.drewN n:=by
  intro W hW;obtain⟨m,hm⟩:=hW.maxl;have:=Tryz.strings_Cut s ⟨#[47]⟩ m W hssz hm;rw[show s.data.toList=numS q from by rw[hs],show(⟨#[47]⟩:ByteArray).data.toList=[47] from rfl,zra] at this;rw[hsn,hsd];simpa [hq] using this
 have hcp:∀W:zA,zC zF 166 #[.string sn,.string ⟨#[45]⟩] W λe w'=>e=.returned (.tuple #[.string own,.bool (decide (q.num<0))])/\w'=W:=by
  intro W;have:=Tryz.strings_CutPrefix sn ⟨#[45]⟩ W;rw[show sn.data.toList=zE q.num from by rw[hsn],show(⟨#[45]⟩:ByteArray).data.toList=[45] from rfl,zbi,zdx] at this;rw[hown];exact this
 have hd1:∀W:zA,zC zF 216 #[.string own] W λe w'=>e=.returned (I own.size)/\w'=W:=by
  intro W;have:=ziv q.num.natAbs (by omega) W;rw[show(zD q.num.natAbs).length=own.size from by rw[hown];exact List.size_toArray.symm] at this;rw[hown] at this⊢;exact this
 have hd2:∀W:zA,zC zF 216 #[.string sd] W λe w'=>e=.returned (I sd.size)/\w'=W:=by
  intro W;have:=ziv q.den (by omega) W;rw[show(zD q.den).length=sd.size from by rw[hsd];exact List.size_toArray.symm] at this;rw[hsd] at this⊢;exact this
 have z1:=zco _ (zci q.num.natAbs) own hown;have z2:=zco _ (zci q.den) sd hsd;have e1:((own.size:Int)==0)=false:=by rw[beq_eq_false_iff_ne];have:=z1.2.1;omega
 have e2:((sd.size:Int)==0)=false:=by rw[beq_eq_false_iff_ne];have:=z2.2.1;omega
 have l1:own.size<=800000:=by rw[z1.2.2.1];exact hl
 have l2:sd.size<=800000:=by rw[z2.2.2.1];exact hl2
 have q1:(sd.toList==[48])=false:=zhl hsd 0 (by omega) q.den_nz;have q2:(sd.toList==[49])=false:=zhl hsd 1 (by omega) hq;show zC _ _ #[.string ⟨(numS q).toArray⟩] _ λe w'=>e=.returned (.tuple #[.agg #[.string ⟨(zE q.num).toArray⟩,.string ⟨(zD q.den).toArray⟩],.bool true])/\Below w.heap.size w w';rw[<-hs,<-hsn,<-hsd];have CUT:=hid hcut;have CP:=hid hcp;have D1:=hid hd1;have D2:=hid hd2;have HW:=hid hw;have hneg:decide (q.num<0)=false\/decide (q.num<0)=true/\(own.toList==[48])=false:=by
  by_cases h:q.num<0
  ·exact .inr ⟨decide_eq_true h,zhl hown 0 (by omega) (by omega)⟩
  ·exact .inl (decide_eq_false h)
 clear hcut hcp hd1 hd2 hw z1 z2 hs hsn hsd hown hl hl2 hssz;rcases hneg with hneg|⟨hneg,hneg2⟩
 ·rw[hneg] at CP
  clear hneg;go_enter Tryz.func159,Tryz.ntmps159;go_wp2_with fail;refine(CUT.out _ (HW.out.below ((zM _ w).alloc (zN _) _))).mono ?_;rintro e w1 ⟨rfl,nd,rfl⟩;go_wp2_with fail;refine(CP.out _).mono ?_;rintro e w1 ⟨rfl,rfl⟩;go_wp2_with fail;refine(D1.out _).mono ?_;rintro e w1 ⟨rfl,rfl⟩;go_wp2_with fail;refine(D2.out _).mono ?_;rintro e w1 ⟨rfl,rfl⟩;go_wp2_with fail;refine bodyPost_ret (v:=.tuple #[.agg #[.string sn,.string sd],.bool true]) (by simp[results,Tryz.results159,go_sem]) rfl ⟨rfl,?_⟩
  repeat(first|exact zM _ _|refine Below.alloc ?_ (by simp) _|refine zao ?_ _|refine Below.setCell ?_ (by simp) _)
 ·rw[hneg] at CP
  clear hneg;go_enter Tryz.func159,Tryz.ntmps159;go_wp2_with fail;refine(CUT.out _ (HW.out.below ((zM _ w).alloc (zN _) _))).mono ?_;rintro e w1 ⟨rfl,nd,rfl⟩;go_wp2_with fail;refine(CP.out _).mono ?_;rintro e w1 ⟨rfl,rfl⟩;go_wp2_with fail;refine(D1.out _).mono ?_;rintro e w1 ⟨rfl,rfl⟩;go_wp2_with fail;refine(D2.out _).mono ?_;rintro e w1 ⟨rfl,rfl⟩;go_wp2_with fail;refine bodyPost_ret (v:=.tuple #[.agg #[.string sn,.string sd],.bool true]) (by simp[results,Tryz.results159,go_sem]) rfl ⟨rfl,?_⟩
  repeat(first|exact zM _ _|refine Below.alloc ?_ (by simp) _|refine zao ?_ _|refine Below.setCell ?_ (by simp) _)
theorem z1m (q:Rat) (hq:q.den=1) (hl:digs q.num<=800000) (w:zA) (hw:Wd w):
 qJ 159 #[St (numS q)] w (.tuple #[.agg #[St (zE q.num),St [49]],.bool true]):=by
 have hl:(zD q.num.natAbs).length<=800000:=hl;obtain⟨s,hs⟩:∃s:ByteArray,s=⟨(numS q).toArray⟩:=⟨_,rfl⟩;obtain⟨sn,hsn⟩:∃s:ByteArray,s=⟨(zE q.num).toArray⟩:=⟨_,rfl⟩;obtain⟨own,hown⟩:∃s:ByteArray,s=⟨(zD q.num.natAbs).toArray⟩:=⟨_,rfl⟩;have hssz:s.size<4294967281:=by
  rw[hs];show(numS q).toArray.size<_;have h1:=za7 q.num;unfold digs at h1;unfold numS;rw[if_pos hq];simp;omega
 have hcut:∀W:zA,Wd W->zC zF 215 #[.string s,.string ⟨#[47]⟩] W λe w'=>e=.returned (.tuple #[.string sn,St [],.bool false])/\∃n,w'=W.drewN n:=by
  intro W hW;obtain⟨m,hm⟩:=hW.maxl;have:=Tryz.strings_Cut s ⟨#[47]⟩ m W hssz hm;rw[show s.data.toList=numS q from by rw[hs],show(⟨#[47]⟩:ByteArray).data.toList=[47] from rfl,zra] at this;rw[hsn];simpa [hq] using this
 have hcp:∀W:zA,zC zF 166 #[.string sn,.string ⟨#[45]⟩] W λe w'=>e=.returned (.tuple #[.string own,.bool (decide (q.num<0))])/\w'=W:=by
  intro W;have:=Tryz.strings_CutPrefix sn ⟨#[45]⟩ W;rw[show sn.data.toList=zE q.num from by rw[hsn],show(⟨#[45]⟩:ByteArray).data.toList=[45] from rfl,zbi,zdx] at this;rw[hown];exact this
 have hd1:∀W:zA,zC zF 216 #[.string own] W λe w'=>e=.returned (I own.size)/\w'=W:=by
  intro W;have:=ziv q.num.natAbs (by omega) W;rw[show(zD q.num.natAbs).length=own.size from by rw[hown];exact List.size_toArray.symm] at this;rw[hown] at this⊢;exact this
 have z1:=zco _ (zci q.num.natAbs) own hown;have e1:((own.size:Int)==0)=false:=by rw[beq_eq_false_iff_ne];have:=z1.2.1;omega
 have l1:own.size<=800000:=by rw[z1.2.2.1];exact hl
 show zC _ _ #[.string ⟨(numS q).toArray⟩] _ λe w'=>e=.returned (.tuple #[.agg #[.string ⟨(zE q.num).toArray⟩,St [49]],.bool true])/\Below w.heap.size w w';rw[<-hs,<-hsn];have CUT:=hid hcut;have CP:=hid hcp;have D1:=hid hd1;have HW:=hid hw;have hneg:decide (q.num<0)=false\/decide (q.num<0)=true/\(own.toList==[48])=false:=by
  by_cases h:q.num<0
  ·exact .inr ⟨decide_eq_true h,zhl hown 0 (by omega) (by omega)⟩
  ·exact .inl (decide_eq_false h)
 clear hcut hcp hd1 hw z1 hs hsn hown hl hssz;rcases hneg with hneg|⟨hneg,hneg2⟩
 ·rw[hneg] at CP
  clear hneg;go_enter Tryz.func159,Tryz.ntmps159;go_wp2_with fail;refine(CUT.out _ (HW.out.below ((zM _ w).alloc (zN _) _))).mono ?_;rintro e w1 ⟨rfl,nd,rfl⟩;go_wp2_with fail;refine(CP.out _).mono ?_;rintro e w1 ⟨rfl,rfl⟩;go_wp2_with fail;refine(D1.out _).mono ?_;rintro e w1 ⟨rfl,rfl⟩;go_wp2_with fail;refine bodyPost_ret (v:=.tuple #[.agg #[.string sn,St [49]],.bool true]) (by simp[results,Tryz.results159,go_sem]) rfl ⟨rfl,?_⟩
  repeat(first|exact zM _ _|refine Below.alloc ?_ (by simp) _|refine zao ?_ _|refine Below.setCell ?_ (by simp) _)
 ·rw[hneg] at CP
  clear hneg;go_enter Tryz.func159,Tryz.ntmps159;go_wp2_with fail;refine(CUT.out _ (HW.out.below ((zM _ w).alloc (zN _) _))).mono ?_;rintro e w1 ⟨rfl,nd,rfl⟩;go_wp2_with fail;refine(CP.out _).mono ?_;rintro e w1 ⟨rfl,rfl⟩;go_wp2_with fail;refine(D1.out _).mono ?_;rintro e w1 ⟨rfl,rfl⟩;go_wp2_with fail;refine bodyPost_ret (v:=.tuple #[.agg #[.string sn,St [49]],.bool true]) (by simp[results,Tryz.results159,go_sem]) rfl ⟨rfl,?_⟩
  repeat(first|exact zM _ _|refine Below.alloc ?_ (by simp) _|refine zao ?_ _|refine Below.setCell ?_ (by simp) _)
theorem zoh (q:Rat) (hl:digs q.num<=800000) (hl2:(zD q.den).length<=800000) (w:zA) (hw:Wd w):
 qJ 159 #[St (numS q)] w (.tuple #[.agg #[St (zE q.num),St (zD q.den)],.bool true]):=by
 by_cases h:q.den=1
 ·rw[h,zae (by omega)];exact z1m q h hl w hw
 ·exact zy7 q h hl hl2 w hw
def okQ (q:Rat):Prop:=digs q.num<=300/\(zD q.den).length<=300
theorem zu2 (q:Rat) (h:zbb q) (w:zA) (hw:Wd w):
 qJ 114 #[St (numS q)] w (.tuple #[.agg #[St (zE q.num),St (zD q.den)],.int .i64 0]):=by
 have hc:=λW hW=>zoh q (zO h.1 (by omega)) (zO h.2 (by omega)) W hW;have hn:=λW=>zbm q h W;generalize numS q=s at hc hn⊢;generalize zE q.num=sn at hc⊢;generalize zD q.den=sd at hc⊢;generalize q.num=n at hn;generalize q.den=d at hn;have HC:=hid hc;have HN:=hid hn;have HW:=hid hw;clear hc hn hw h;go_enter Tryz.func114,Tryz.ntmps114;go_wp2_with fail;refine(HC.out _ (HW.out.below ((zM _ w).alloc (zN _) _))).mono ?_;rintro e w1 ⟨rfl,hb1⟩;have hB1:qL w w1:=((zM _ w).alloc (zN _) _).trans (hb1.mono (by simp));have z1:w.heap.size<w1.heap.size:=by have:=hb1.size;simp at this;omega
 have R1:w1.heap[w.heap.size]? =some (.cells #[St [],St []] 121 (0,0)):=(hb1.block _ (by simp)).trans (zG w _);clear hb1;go_wp2_with fail;refine(HN.out _).mono ?_;rintro e w2 ⟨rfl,hb2⟩;have z2:w1.heap.size<w2.heap.size:=by have:=hb2.size;simp at this;omega
 have hB2:qL w w2:=(hB1.alloc hB1.size _).trans (hb2.mono (by simp;omega));have R2:w2.heap[w.heap.size]? =some (.cells #[St [],St []] 121 (0,0)):=(hb2.block _ (by simp;omega)).trans ((Below.heap_alloc _ _ _ (by omega)).trans R1);have P2:w2.heap[w1.heap.size]? =some (.cells #[St sn,St sd] 121 (0,0)):=(hb2.block _ (by simp)).trans (zG w1 _);have P20:w2.cell? ⟨w1.heap.size,0,none⟩=some (St sn):=by simp[World.cell?,P2]
 have P21:w2.cell? ⟨w1.heap.size,1,none⟩=some (St sd):=by simp[World.cell?,P2]
 have R20:w2.cell? ⟨w.heap.size,0,none⟩=some (St []):=by simp[World.cell?,R2]
 have R21:w2.cell? ⟨w.heap.size,1,none⟩=some (St []):=by simp[World.cell?,R2]
 have F20:w2.frozen? ⟨w.heap.size,0,none⟩=false:=by simp[World.frozen?,R2]
 have F21:w2.frozen? ⟨w.heap.size,1,none⟩=false:=by simp[World.frozen?,R2]
 have z3:w.heap.size<w2.heap.size:=by omega
 clear R1 hB1 hb2 P2;go_wp2_with fail;refine bodyPost_ret (v:=.tuple #[.agg #[St sn,St sd],.int .i64 0]) (by simp[results,Tryz.results114,go_sem,R20,R21,z3]) rfl ⟨rfl,?_⟩
 repeat(first|exact hB2|exact zM _ _|refine Below.alloc ?_ (by simp[World.setCell]<;>omega) _|refine zao ?_ _|refine Below.setCell ?_ (by simp) _)
theorem zp1 (q:Rat) (h:¬zbb q) (hk:okQ q) (hd:q.den=1) (hl:digs q.num<=800000) (hl2:(zD q.den).length<=800000) (w:zA) (hw:Wd w):
 qJ 114 #[St (numS q)] w (.tuple #[.agg #[St (zE q.num),St (zD q.den)],.int .i64 0]):=by
 have hc:=λW hW=>zoh q hl hl2 W hW;have hn:=λW=>zb5 q h hl hl2 W;obtain⟨sn,hsn⟩:∃s:ByteArray,s=⟨(zE q.num).toArray⟩:=⟨_,rfl⟩;obtain⟨sd,hsd⟩:∃s:ByteArray,s=⟨(zD q.den).toArray⟩:=⟨_,rfl⟩;obtain⟨own,hown⟩:∃s:ByteArray,s=⟨(zD q.num.natAbs).toArray⟩:=⟨_,rfl⟩;have htp:∀W:zA,zC zF 160 #[.string sn,.string ⟨#[45]⟩] W λe w'=>e=.returned (.string own)/\w'=W:=by
  intro W;have:=Tryz.strings_TrimPrefix sn ⟨#[45]⟩ W;rw[show sn.data.toList=zE q.num from by rw[hsn],show(⟨#[45]⟩:ByteArray).data.toList=[45] from rfl,zbi] at this;rw[hown];exact this
 have l1:own.size=digs q.num:=by rw[hown];exact zZ
 have l2:sd.size=(zD q.den).length:=by rw[hsd];exact zZ
 have s1:¬(300:Int)<own.size:=by have:=hk.1;omega
 have s2:¬(300:Int)<sd.size:=by have:=hk.2;omega
 have s3:(sd.toList==[49])=true:=by rw[zfo hsd,hd,zae (by omega)];rfl
 have hc:∀W,Wd W->qJ 159 #[St (numS q)] W (.tuple #[.agg #[.string sn,.string sd],.bool true]):=by rw[hsn,hsd];exact hc
 rw[show St (zE q.num)=.string sn from by rw[hsn],show St (zD q.den)=.string sd from by rw[hsd]];generalize numS q=s at hc hn⊢;have HC:=hid hc;have HN:=hid hn;have HW:=hid hw;have TP:=hid htp;clear hc hn hw h hsn hsd hown htp l1 l2 hl hl2 hk hd;go_enter Tryz.func114,Tryz.ntmps114;go_wp2_with fail;refine(HC.out _ (HW.out.below ((zM _ w).alloc (zN _) _))).mono ?_;rintro e w1 ⟨rfl,hb1⟩;have hB1:qL w w1:=((zM _ w).alloc (zN _) _).trans (hb1.mono (by simp));have z1:w.heap.size<w1.heap.size:=by have:=hb1.size;simp at this;omega
 have R1:w1.heap[w.heap.size]? =some (.cells #[St [],St []] 121 (0,0)):=(hb1.block _ (by simp)).trans (zG w _);clear hb1;go_wp2_with fail;refine(HN.out _).mono ?_;rintro e w2 ⟨rfl,hb2⟩;have z2:w1.heap.size<w2.heap.size:=by have:=hb2.size;simp at this;omega
 have hB2:qL w w2:=(hB1.alloc hB1.size _).trans (hb2.mono (by simp;omega));have R2:w2.heap[w.heap.size]? =some (.cells #[St [],St []] 121 (0,0)):=(hb2.block _ (by simp;omega)).trans ((Below.heap_alloc _ _ _ (by omega)).trans R1);have P2:w2.heap[w1.heap.size]? =some (.cells #[.string sn,.string sd] 121 (0,0)):=(hb2.block _ (by simp)).trans (zG w1 _);have P20:w2.cell? ⟨w1.heap.size,0,none⟩=some (.string sn):=by simp[World.cell?,P2]
 have P21:w2.cell? ⟨w1.heap.size,1,none⟩=some (.string sd):=by simp[World.cell?,P2]
 have R20:w2.cell? ⟨w.heap.size,0,none⟩=some (St []):=by simp[World.cell?,R2]
 have R21:w2.cell? ⟨w.heap.size,1,none⟩=some (St []):=by simp[World.cell?,R2]
 have F20:w2.frozen? ⟨w.heap.size,0,none⟩=false:=by simp[World.frozen?,R2]
 have F21:w2.frozen? ⟨w.heap.size,1,none⟩=false:=by simp[World.frozen?,R2]
 have z3:w.heap.size<w2.heap.size:=by omega
 clear R1 hB1 hb2;go_wp2_with fail;refine(TP.out _).mono ?_;rintro e w3 ⟨rfl,rfl⟩;go_wp2_with fail;refine bodyPost_ret (v:=.tuple #[.agg #[.string sn,.string sd],.int .i64 0]) (by simp[results,Tryz.results114,go_sem,R20,R21,z3]) rfl ⟨rfl,?_⟩
 repeat(first|exact hB2|exact zM _ _|refine Below.alloc ?_ (by simp[World.setCell]<;>omega) _|refine zao ?_ _|refine Below.setCell ?_ (by simp) _)
theorem zoi (q:Rat) (h:¬zbb q) (hk:okQ q) (hd:q.den≠1) (hl:digs q.num<=800000) (hl2:(zD q.den).length<=800000) (w:zA) (hw:Wd w):
 qJ 114 #[St (numS q)] w (.tuple #[.agg #[St (zE q.num),St (zD q.den)],.int .i64 0]):=by
 have hc:=λW hW=>zoh q hl hl2 W hW;have hn:=λW=>zb5 q h hl hl2 W;obtain⟨sn,hsn⟩:∃s:ByteArray,s=⟨(zE q.num).toArray⟩:=⟨_,rfl⟩;obtain⟨sd,hsd⟩:∃s:ByteArray,s=⟨(zD q.den).toArray⟩:=⟨_,rfl⟩;obtain⟨own,hown⟩:∃s:ByteArray,s=⟨(zD q.num.natAbs).toArray⟩:=⟨_,rfl⟩;have htp:∀W:zA,zC zF 160 #[.string sn,.string ⟨#[45]⟩] W λe w'=>e=.returned (.string own)/\w'=W:=by
  intro W;have:=Tryz.strings_TrimPrefix sn ⟨#[45]⟩ W;rw[show sn.data.toList=zE q.num from by rw[hsn],show(⟨#[45]⟩:ByteArray).data.toList=[45] from rfl,zbi] at this;rw[hown];exact this
 have l1:own.size=digs q.num:=by rw[hown];exact zZ
 have l2:sd.size=(zD q.den).length:=by rw[hsd];exact zZ
 have s1:¬(300:Int)<own.size:=by have:=hk.1;omega
 have s2:¬(300:Int)<sd.size:=by have:=hk.2;omega
 have s3:(sd.toList==[49])=false:=zhl hsd 1 (by omega) hd;have hg:qK 117 #[.string sn,.string sd] (.tuple #[St [49],.int .i64 0]):=by
  intro W hW;have h2:digs (q.den:Int)<=300:=hk.2;have:=ztw q.num q.den hk.1 h2 W hW;rw[show(Int.gcd q.num (q.den:Int):Int)=1 from by have:=q.reduced;unfold Int.gcd;rw[Int.natAbs_natCast];unfold Nat.Coprime at this;rw[this];rfl,zmn,Str.zad q.den] at this;rw[hsn,hsd];exact this
 have hc:∀W,Wd W->qJ 159 #[St (numS q)] W (.tuple #[.agg #[.string sn,.string sd],.bool true]):=by rw[hsn,hsd];exact hc
 rw[show St (zE q.num)=.string sn from by rw[hsn],show St (zD q.den)=.string sd from by rw[hsd]];generalize numS q=s at hc hn⊢;have HC:=hid hc;have HN:=hid hn;have HW:=hid hw;have TP:=hid htp;have GC:=hid hg;clear hc hn hw h hsn hsd hown htp hg l1 l2 hl hl2 hk hd;go_enter Tryz.func114,Tryz.ntmps114;go_wp2_with fail;refine(HC.out _ (HW.out.below ((zM _ w).alloc (zN _) _))).mono ?_;rintro e w1 ⟨rfl,hb1⟩;have hB1:qL w w1:=((zM _ w).alloc (zN _) _).trans (hb1.mono (by simp));have z1:w.heap.size<w1.heap.size:=by have:=hb1.size;simp at this;omega
 have R1:w1.heap[w.heap.size]? =some (.cells #[St [],St []] 121 (0,0)):=(hb1.block _ (by simp)).trans (zG w _);clear hb1;go_wp2_with fail;refine(HN.out _).mono ?_;rintro e w2 ⟨rfl,hb2⟩;have z2:w1.heap.size<w2.heap.size:=by have:=hb2.size;simp at this;omega
 have hB2:qL w w2:=(hB1.alloc hB1.size _).trans (hb2.mono (by simp;omega));have R2:w2.heap[w.heap.size]? =some (.cells #[St [],St []] 121 (0,0)):=(hb2.block _ (by simp;omega)).trans ((Below.heap_alloc _ _ _ (by omega)).trans R1);have P2:w2.heap[w1.heap.size]? =some (.cells #[.string sn,.string sd] 121 (0,0)):=(hb2.block _ (by simp)).trans (zG w1 _);have P20:w2.cell? ⟨w1.heap.size,0,none⟩=some (.string sn):=by simp[World.cell?,P2]
 have P21:w2.cell? ⟨w1.heap.size,1,none⟩=some (.string sd):=by simp[World.cell?,P2]
 have R20:w2.cell? ⟨w.heap.size,0,none⟩=some (St []):=by simp[World.cell?,R2]
 have R21:w2.cell? ⟨w.heap.size,1,none⟩=some (St []):=by simp[World.cell?,R2]
 have F20:w2.frozen? ⟨w.heap.size,0,none⟩=false:=by simp[World.frozen?,R2]
 have F21:w2.frozen? ⟨w.heap.size,1,none⟩=false:=by simp[World.frozen?,R2]
 have z3:w.heap.size<w2.heap.size:=by omega
 clear R1 hB1 hb2;go_wp2_with fail;refine(TP.out _).mono ?_;rintro e w3 ⟨rfl,rfl⟩;go_wp2_with fail;have hb3':qL w (w2.alloc (.cells #[.int .i64 0,.int .i64 0] 117)):=hB2.alloc hB2.size _;refine(GC.out _ (HW.out.below hb3')).mono ?_;rintro e w3 ⟨rfl,hb3⟩;have z4:w2.heap.size<w3.heap.size:=by have:=hb3.size;simp at this;omega
 have hB3:=hb3'.trans (hb3.mono (by simp;omega));have R3:w3.heap[w.heap.size]? =some (.cells #[St [],St []] 121 (0,0)):=(hb3.block _ (by simp;omega)).trans ((Below.heap_alloc _ _ _ (by omega)).trans R2);have P3:w3.heap[w1.heap.size]? =some (.cells #[.string sn,.string sd] 121 (0,0)):=(hb3.block _ (by simp;omega)).trans ((Below.heap_alloc _ _ _ (by omega)).trans P2);clear P20 P21 R20 R21 F20 F21;have P20:w3.cell? ⟨w1.heap.size,0,none⟩=some (.string sn):=by simp[World.cell?,P3]
 have P21:w3.cell? ⟨w1.heap.size,1,none⟩=some (.string sd):=by simp[World.cell?,P3]
 have R20:w3.cell? ⟨w.heap.size,0,none⟩=some (St []):=by simp[World.cell?,R3]
 have R21:w3.cell? ⟨w.heap.size,1,none⟩=some (St []):=by simp[World.cell?,R3]
 have F20:w3.frozen? ⟨w.heap.size,0,none⟩=false:=by simp[World.frozen?,R3]
 have F21:w3.frozen? ⟨w.heap.size,1,none⟩=false:=by simp[World.frozen?,R3]
 have z5:w.heap.size<w3.heap.size:=by omega
 clear R2 P2 R3 P3 hb3 hb3' hB2;go_wp2_with fail;refine bodyPost_ret (v:=.tuple #[.agg #[.string sn,.string sd],.int .i64 0]) (by simp[results,Tryz.results114,go_sem,R20,R21]) rfl ⟨rfl,?_⟩
 repeat(first|exact hB3|exact zM _ _|refine Below.alloc ?_ (by simp[World.setCell,World.drewN]<;>omega) _|refine zao ?_ _|refine Below.setCell ?_ (by simp) _)
theorem zek (q:Rat) (h:okQ q) (w:zA) (hw:Wd w):
 qJ 114 #[St (numS q)] w (.tuple #[.agg #[St (zE q.num),St (zD q.den)],.int .i64 0]):=by
 by_cases hs:zbb q
 ·exact zu2 q hs w hw
 ·by_cases hd:q.den=1
  ·exact zp1 q hs h hd (zO h.1 (by omega)) (zO h.2 (by omega)) w hw
  ·exact zoi q hs h hd (zO h.1 (by omega)) (zO h.2 (by omega)) w hw
theorem zfj (q:Rat) (h:okQ q) (w:zA) (hw:Wd w):
 qJ 77 #[St (numS q)] w (.int .i64 0):=by
 have hc:=λW hW=>zek q h W hW;generalize numS q=s at hc⊢;have HC:=hid hc;clear hc h;go_enter Tryz.func77,Tryz.ntmps77;go_wp2_with fail;refine(HC.out _ hw).mono ?_;rintro e w1 ⟨rfl,hb1⟩;go_wp2_with fail;go_ret;exact⟨rfl,hb1.alloc hb1.size _⟩
end Go.Proofs.YtheinkfbiedidaaGreatDoor
