/- Numerals as limbs: the plain laws of reading and of writing. Plain Lean: no program stands in this text. -/
import Derived.Test.YtccijmidbdapaaaGreatDoorJ05
set_option maxRecDepth 100000
set_option maxHeartbeats 8000000
open Go renaming World → zA
open Go.Lib renaming decDigits → zD, itoa → zE
open Go.Proofs.Tryz renaming prog → zF
open Go.World renaming alloc_heap_new → zG, size_alloc → zH
open Go.IntWalk renaming i64_in → zI
open List renaming length_cons → yA
open Go.RowKit.Below renaming heap_setCell → yE
open Nat renaming pow_le_pow_right → yF, pow_succ → yO, mul_comm → yP
namespace Go.Proofs.YtccijmidbdapaaaGreatDoor.Limb
open Go.Lib Str
def digL (l:List UInt8):List Nat:=(l.map λc=>c.toNat-48).reverse
theorem zmr:∀(l:List UInt8) (a:Nat),l.foldl (λa c=>10*a+(c.toNat-48)) a=valL 10 (digL l)+10^l.length*a
 |[],a=>by simp[digL,valL]
 |c::r,a=>by
  rw[List.foldl_cons,zmr r]
  unfold digL
  rw[List.map_cons,List.reverse_cons,zcm]
  simp only[List.length_reverse,List.length_map,yA,yO,Nat.mul_add]
  rw[Nat.mul_assoc];omega
theorem zyx (n:Nat):valL 10 (digL (zD n))=n:=by
 have:=zmr (zD n) 0
 rw[Nat.mul_zero,Nat.add_zero] at this
 rw[<-this];exact zb2 n
theorem zfi (l:List UInt8):(digL l).length=l.length:=by simp[digL]
theorem zfz {l:List UInt8} (h:∀c∈l,48<=c.toNat/\c.toNat<=57):zal 10 (digL l):=by
 intro x hx
 simp only[digL,List.mem_reverse,List.mem_map] at hx
 obtain⟨c,hc,rfl⟩:=hx
 have:=h c hc;omega
theorem z07 (l:List UInt8) (i:Nat) (h:i<l.length):(digL l)[i]?.getD 0=(l[l.length-1-i]'(by omega)).toNat-48:=by
 unfold digL
 rw[List.getElem?_reverse (by simpa using h)]
 simp[show l.length-1-i<l.length by omega]
def zb8 (p:Nat) (ds:List Nat) (m:Nat):Nat->List Nat
 |0=>List.replicate m 0
 |k+1=>(zb8 p ds m k).set (k/p) ((zb8 p ds m k)[k/p]?.getD 0+ds[k]?.getD 0*10^(k%p))
theorem zpu (p k:Nat):(10^p)^(k/p)*10^(k%p)=10^k:=by
 rw[<-Nat.pow_mul,<-Nat.pow_add,Nat.div_add_mod]
theorem zyy {p k:Nat} (hp:0<p):((k+1)/p=k/p/\(k+1)%p=k%p+1/\k%p+1<p)\/((k+1)/p=k/p+1/\(k+1)%p=0/\k%p+1=p):=by
 have h1:=Nat.div_add_mod k p
 have h2:=Nat.mod_lt k hp
 by_cases h:k%p+1<p
 ·left
  have e:k+1=(k%p+1)+p*(k/p):=by omega
  refine⟨?_,?_,h⟩
  ·rw[e,Nat.add_mul_div_left _ _ hp,Nat.div_eq_of_lt h,Nat.zero_add]
  ·rw[e,Nat.add_mul_mod_self_left,Nat.mod_eq_of_lt h]
 ·right
  have h3:k%p+1=p:=by omega
  have e:k+1=p*(k/p+1):=by rw[Nat.mul_add,Nat.mul_one];omega
  refine⟨?_,?_,h3⟩
  ·rw[e,Nat.mul_div_cancel_left _ hp]
  ·rw[e,Nat.mul_mod_right]
theorem zgp {p:Nat} (hp:0<p) {ds:List Nat} (hd:zal 10 ds) {m:Nat} (hm:ds.length<=p*m):∀k,k<=ds.length->
 (zb8 p ds m k).length=m/\zal (10^p) (zb8 p ds m k)/\valL (10^p) (zb8 p ds m k)=valL 10 (ds.take k)/\(zb8 p ds m k)[k/p]?.getD 0<10^(k%p)/\∀i,k/p<i->(zb8 p ds m k)[i]?.getD 0=0
 |0,_=>by
  have hz:∀i,(List.replicate m 0)[i]?.getD 0=0:=λi=>by rw[List.getElem?_replicate];split<;>rfl
  refine⟨by simp[zb8],λx hx=>?_,?_,?_,λi _=>hz i⟩
  ·simp only[zb8,List.mem_replicate] at hx
   rw[hx.2];exact Nat.pow_pos (by omega)
  ·rw[List.take_zero];exact zgd _ _
  ·show(List.replicate m 0)[_]?.getD 0<_
   rw[hz];exact Nat.pow_pos (by omega)
 |k+1,hk=>by
  obtain⟨h1,h2,h3,h4,h5⟩:=zgp hp hd hm k (by omega)
  have hkm:k/p<m:=by rw[Nat.div_lt_iff_lt_mul hp,yP];omega
  have hds:=zaj hd (by omega) k
  have hv:=zgc (10^p) (zb8 p ds m k) (k/p) ((zb8 p ds m k)[k/p]?.getD 0+ds[k]?.getD 0*10^(k%p)) (by omega)
  have hpw:=zpu p k
  have htk:=zbo ds k 10
  have hnew:(zb8 p ds m k)[k/p]?.getD 0+ds[k]?.getD 0*10^(k%p)<10^(k%p+1):=by
   rw[yO]
   have:=Nat.mul_le_mul_right (10^(k%p)) (show ds[k]?.getD 0<=9 by omega)
   omega
  have hnew2:10^(k%p+1)<=10^p:=yF (by omega) (Nat.mod_lt _ hp)
  refine⟨by simp[zb8,h1],zfm h2 _ (by omega),?_,?_,?_⟩
  ·show valL (10^p) ((zb8 p ds m k).set _ _)=_
   rw[htk,<-h3,<-hpw]
   rw[Nat.mul_add] at hv
   have:(10^p)^(k/p)*(ds[k]?.getD 0*10^(k%p))=(10^p)^(k/p)*10^(k%p)*ds[k]?.getD 0:=by
    rw[Nat.mul_assoc,yP (ds[k]?.getD 0)]
   omega
  ·show((zb8 p ds m k).set _ _)[_]?.getD 0<_
   rcases zyy (k:=k) hp with⟨e1,e2,_⟩|⟨e1,e2,_⟩
   ·rw[e1,e2,List.getElem?_set_self (by omega)];exact hnew
   ·rw[e1,e2,List.getElem?_set_ne (by omega),h5 _ (by omega)];exact Nat.pow_pos (by omega)
  ·intro i hi
   show((zb8 p ds m k).set _ _)[_]?.getD 0=_
   have:k/p<=(k+1)/p:=Nat.div_le_div_right (by omega)
   rw[List.getElem?_set_ne (by omega),h5 _ (by omega)]
theorem zus {p:Nat} (hp:0<p) (n m:Nat) (hm:(zD n).length<=p*m):zat (zb8 p (digL (zD n)) m (zD n).length)=zaa (10^p) n:=by
 obtain⟨h1,h2,h3, -⟩:=zgp hp (zfz (zan n)) (m:=m) (by rw[zfi];exact hm) (digL (zD n)).length (Nat.le_refl _)
 rw[List.take_length,zyx] at h3
 rw[zfi] at h2 h3
 rw[zbu (Nat.le_trans (show 2<=10^1 by omega) (yF (by omega) hp)) h2,h3]
def padD:Nat->Nat->List UInt8
 |0,_=>[]
 |k+1,x=>padD k (x/10)++[UInt8.ofNat (48+x%10)]
theorem zhw:∀k x,(padD k x).length=k
 |0,_=>rfl
 |k+1,x=>by simp[padD,zhw k]
theorem ztt:∀(k y x:Nat),0<y->x<10^k->zD (10^k*y+x)=zD y++padD k x
 |0,y,x,hy,hx=>by simp at hx;subst hx;simp[padD]
 |k+1,y,x,hy,hx=>by
  have e:10^(k+1)*y+x=10*(10^k*y+x/10)+x%10:=by
   rw[yO,yP (10^k) 10,Nat.mul_add,Nat.mul_assoc];omega
  have hx':x/10<10^k:=by rw[yO] at hx;omega
  have hp:0<10^k*y:=Nat.mul_pos (Nat.pow_pos (by omega)) hy
  rw[e,zi4 (by omega) (by omega),ztt k y _ hy hx',padD,List.append_assoc]
theorem zo1:∀k,padD k 0=List.replicate k 48
 |0=>rfl
 |k+1=>by
  rw[padD,Nat.zero_div,zo1 k,List.replicate_succ'];rfl
theorem zjv:∀(k x:Nat),0<k->x<10^k->padD k x=List.replicate (k-(zD x).length) 48++zD x
 |k+1,x,_,hx=>by
  rw[padD]
  by_cases h:x<10
  ·rw[zae h,Nat.div_eq_of_lt h,zo1,Nat.mod_eq_of_lt h];simp
  ·rw[zav (by omega)]
   have hx':x/10<10^k:=by rw[yO] at hx;omega
   have hk:0<k:=by
    rcases Nat.eq_zero_or_pos k with rfl|h
    ·simp at hx;omega
    ·exact h
   rw[zjv k (x/10) hk hx',List.length_append,List.length_singleton,show k+1-((zD (x/10)).length+1)=k-(zD (x/10)).length by omega,List.append_assoc]
theorem zut {p:Nat} {l:List Nat} (hl:zal (10^p) l) (k:Nat) (hk:k<l.length) (h0:0<valL (10^p) (l.drop (k+1))):
 zD (valL (10^p) (l.drop k))=zD (valL (10^p) (l.drop (k+1)))++padD p (l[k]?.getD 0):=by
 rw[zdu l k _ hk,Nat.add_comm,ztt p _ _ h0 (hl _ (List.getElem_mem hk))]
 simp[hk]
theorem zpv {B:Nat} (hB:2<=B) {n k:Nat} (hk:k<(zaa B n).length):0<valL B ((zaa B n).drop k):=by
 rcases zg7 hB n with h|⟨i,x,h,hx⟩
 ·rw[h] at hk;simp at hk
 ·rw[h] at hk⊢
  rw[List.length_append,List.length_singleton] at hk
  rw[List.drop_append_of_le_length (by omega),zcm]
  have:0<B^(i.drop k).length*x:=Nat.mul_pos (Nat.pow_pos (by omega)) (by omega)
  omega
end Go.Proofs.YtccijmidbdapaaaGreatDoor.Limb
namespace Go.Proofs.YtccijmidbdapaaaGreatDoor
open Go.RowKit Lib Str
theorem zhx {x:Int} (h:0<=x):Lib.hasPrefix (zE x) [45]=false:=by
 obtain⟨c,r,e,h1,_⟩:=dec_head x.natAbs
 rcases zbg x with⟨_,e2⟩|⟨h2,_⟩
 ·rw[e2,e]
  have:c≠45:=λh=>by rw[h] at h1;simp at h1
  simp only[Lib.hasPrefix,List.isPrefixOf,Bool.and_true];exact beq_eq_false_iff_ne.2 (Ne.symm this)
 ·omega
theorem zkf {x:Int} (h:x<0):Lib.hasPrefix (zE x) [45]=true:=by
 rcases zbg x with⟨h2,_⟩|⟨_,e2⟩
 ·omega
 ·rw[e2];simp[Lib.hasPrefix]
theorem zdx (x:Int):Lib.hasPrefix (zE x) [45]=decide (x<0):=by
 by_cases h:x<0
 ·rw[zkf h];simp[h]
 ·rw[zhx (by omega)];simp[h]
theorem zbi (x:Int):Lib.trimPrefix (zE x) [45]=zD x.natAbs:=by
 unfold Lib.trimPrefix
 rcases zbg x with⟨h,e⟩|⟨h,e⟩
 ·rw[zhx h,e];simp
 ·rw[zkf h,e];simp
theorem zkg {α:Type} (p:α->Bool):∀l:List α,(∀x∈l,p x=true)->l.dropWhile p=[]
 |[],_=>rfl
 |a::r,h=>by rw[List.dropWhile_cons,if_pos (h a (by simp))];exact zkg p r λx hx=>h x (by simp[hx])
theorem zku (l:List UInt8) (h:∀c∈l,48<=c.toNat/\c.toNat<=57):Lib.trimS l [48,49,50,51,52,53,54,55,56,57]=[]:=by
 have hc:∀c∈l,([48,49,50,51,52,53,54,55,56,57]:List UInt8).contains c=true:=by
  intro c hcl
  obtain⟨h1,h2⟩:=h c hcl
  obtain⟨k,hk,rfl⟩:∃k,k<10/\c=UInt8.ofNat (48+k):=⟨c.toNat-48,by omega,by rw[show 48+(c.toNat-48)=c.toNat by omega];exact UInt8.ofNat_toNat.symm⟩
  have:∀k:Fin 10,([48,49,50,51,52,53,54,55,56,57]:List UInt8).contains (UInt8.ofNat (48+k.val))=true:=by decide
  exact this ⟨k,hk⟩
 have e:l.reverse.dropWhile (([48,49,50,51,52,53,54,55,56,57]:List UInt8).contains ·)=[]:=
  zkg _ _ λc hcl=>hc c (List.mem_reverse.1 hcl)
 unfold trimS trimRightS trimLeftS
 rw[e];rfl
theorem zkv {n:Nat} {c:UInt8} {r:List UInt8} (h:zD n=c::r) (hc:(c.toNat:Int)=48):n=0:=
 zmm n (by rw[h];have:c=48:=UInt8.toNat_inj.1 (by simp;omega);rw[this];rfl)
theorem ba0 (c:UInt8) (r:List UInt8) (h:0<(⟨(c::r).toArray⟩:ByteArray).size):(⟨(c::r).toArray⟩:ByteArray)[0]'h=c:=rfl
theorem zst (x:Int) (hx:x≠0) (hl:digs x<=300) (_:digs x<=1000000) (w:zA):
 qJ 109 #[St (zE x)] w (.int .i64 0):=by
 have h1:=zbi x
 have h2:=zku _ (zan x.natAbs)
 have h3:digs x=(zD x.natAbs).length:=rfl
 obtain⟨c,r,hd,hc1,hc2⟩:=dec_head x.natAbs
 have hb:(c.toNat:Int)≠48:=λh=>by have:=zkv hd h;omega
 rw[hd] at h1 h2 h3
 obtain⟨s,hs⟩:∃s:ByteArray,s=⟨(c::r).toArray⟩:=⟨_,rfl⟩
 have hz:s.size=r.length+1:=by rw[hs];show(c::r).toArray.size=_;simp
 have h0:0<s.size:=by omega
 have hne:s.toList.isEmpty=false:=by rw[ByteArray.toList_eq,hs];simp
 have hb:(((s[0]'h0).toNat:Int)==48)=false:=by
  rw[beq_eq_false_iff_ne];subst hs;exact hb
 have hl':(s.size:Int)<=300:=by simp at h3;omega
 have hlen:(s.size:Int)<=1000000:=by simp at h3;omega
 have H1:Hid (⟨(trimPrefix (zE x) [45]).toArray⟩=s):=hid (by rw[h1,hs])
 have H2:Hid (trimS s.data.toList [48,49,50,51,52,53,54,55,56,57]=[]):=hid (by rw[hs];exact h2)
 clear h1 h2 h3 hd hl hs hz
 go_enter Tryz.func109,Tryz.ntmps109
 go_wp2_with fail
 refine(Tryz.strings_TrimPrefix _ _ _).mono ?_
 rintro e w' ⟨rfl,rfl⟩
 simp only[H1.out]
 go_wp2_with fail
 refine(Tryz.Trim_ascii s ⟨#[48,49,50,51,52,53,54,55,56,57]⟩ _ (by omega) (by decide) (ascii_of_all (by decide))).mono ?_
 rintro e w1 ⟨rfl,hb1⟩
 simp only[H2.out]
 go_wp2_with fail
 go_ret
 exact⟨rfl,hb1⟩
theorem zq0 (x:Int) (hx:x≠0) (hl:300<digs x) (hm:digs x<=1000000) (w:zA):
 qJ 109 #[St (zE x)] w (.int .i64 4):=by
 have h1:=zbi x
 have h2:=zku _ (zan x.natAbs)
 have h3:digs x=(zD x.natAbs).length:=rfl
 obtain⟨c,r,hd,hc1,hc2⟩:=dec_head x.natAbs
 have hb:(c.toNat:Int)≠48:=λh=>by have:=zkv hd h;omega
 rw[hd] at h1 h2 h3
 obtain⟨s,hs⟩:∃s:ByteArray,s=⟨(c::r).toArray⟩:=⟨_,rfl⟩
 have hz:s.size=r.length+1:=by rw[hs];show(c::r).toArray.size=_;simp
 have h0:0<s.size:=by omega
 have hne:s.toList.isEmpty=false:=by rw[ByteArray.toList_eq,hs];simp
 have hb:(((s[0]'h0).toNat:Int)==48)=false:=by
  rw[beq_eq_false_iff_ne];subst hs;exact hb
 have hl':300<(s.size:Int):=by simp at h3;omega
 have hlen:(s.size:Int)<=1000000:=by simp at h3;omega
 have H1:Hid (⟨(trimPrefix (zE x) [45]).toArray⟩=s):=hid (by rw[h1,hs])
 have H2:Hid (trimS s.data.toList [48,49,50,51,52,53,54,55,56,57]=[]):=hid (by rw[hs];exact h2)
 clear h1 h2 h3 hd hl hm hs hz
 go_enter Tryz.func109,Tryz.ntmps109
 go_wp2_with fail
 refine(Tryz.strings_TrimPrefix _ _ _).mono ?_
 rintro e w' ⟨rfl,rfl⟩
 simp only[H1.out]
 go_wp2_with fail
 refine(Tryz.Trim_ascii s ⟨#[48,49,50,51,52,53,54,55,56,57]⟩ _ (by omega) (by decide) (ascii_of_all (by decide))).mono ?_
 rintro e w1 ⟨rfl,hb1⟩
 simp only[H2.out]
 go_wp2_with fail
 go_ret
 exact⟨rfl,hb1⟩
theorem zuu (w:zA):
 qJ 109 #[.string ⟨#[48]⟩] w (.int .i64 0):=by
 have h1:Lib.trimPrefix [48] [45]=[48]:=by decide
 have h2:Lib.trimS [48] [48,49,50,51,52,53,54,55,56,57]=[]:=by decide
 have H1:=hid h1;clear h1
 have H2:=hid h2;clear h2
 go_enter Tryz.func109,Tryz.ntmps109
 go_wp2_with fail
 refine(Tryz.strings_TrimPrefix _ _ _).mono ?_
 rintro e w' ⟨rfl,rfl⟩
 simp only[H1.out]
 go_wp2_with fail
 refine(Tryz.Trim_ascii ⟨#[48]⟩ ⟨#[48,49,50,51,52,53,54,55,56,57]⟩ _ (by decide) (by decide) (ascii_of_all (by decide))).mono ?_
 rintro e w1 ⟨rfl,hb1⟩
 simp only[H2.out]
 go_wp2_with fail
 go_ret
 exact⟨rfl,hb1⟩
theorem zwl:digs 0=1:=by unfold digs;rw[show(0:Int).natAbs=0 from rfl,zdj];rfl
theorem zq1 (x:Int) (hm:digs x<=1000000) (w:zA):
 qJ 109 #[St (zE x)] w (.int .i64 (if digs x<=300 then 0 else 4)):=by
 by_cases h0:x=0
 ·subst h0
  rw[zwl,if_pos (by decide),zb9]
  exact zuu w
 ·by_cases hl:digs x<=300
  ·rw[if_pos hl];exact zst x h0 hl hm w
  ·rw[if_neg hl];exact zq0 x h0 (by omega) hm w
theorem zl4 (x:Int) (h:digs x<=300) (w:zA):
 qJ 109 #[St (zE x)] w (.int .i64 0):=by
 have:=zq1 x (by omega) w
 rw[if_pos h] at this;exact this
theorem zdh (x y:Int) (hx:digs x<=300) (hy:digs y<=300) (w:zA):
 qJ 62 #[St (zE x),St (zE y)] w (.int .i64 0):=by
 have c1:=hid hx;clear hx
 have c2:=hid hy;clear hy
 go_enter Tryz.func62,Tryz.ntmps62
 go_wp2_with fail
 refine(zl4 x c1.out _).mono ?_
 rintro e w1 ⟨rfl,hb1⟩
 go_wp2_with fail
 refine(zl4 y c2.out _).mono ?_
 rintro e w2 ⟨rfl,hb2⟩
 go_wp2_with fail
 go_ret
 exact⟨rfl,hb1.trans (hb2.mono hb1.size)⟩
theorem zdy (x y:Int) (hx:(zE x).length<=18) (hy:(zE y).length<=18) (w:zA):
 qJ 63 #[St (zE x),St (zE y),.int .i64 18] w (.tuple #[.int .i64 x,.int .i64 y,.bool true]):=by
 have h1:decide (18<((zE x).length:Int))=false:=by simp;omega
 have h2:decide (18<((zE y).length:Int))=false:=by simp;omega
 have c1:=hid hx;clear hx
 have c2:=hid hy;clear hy
 go_enter Tryz.func63,Tryz.ntmps63
 go_wp2_with fail
 refine(znc x c1.out _).mono ?_
 rintro e w1 ⟨rfl,hb1⟩
 go_wp2_with fail
 refine(znc y c2.out _).mono ?_
 rintro e w2 ⟨rfl,hb2⟩
 go_wp2_with fail
 go_quiet (fail)
 go_wp2_with fail
 go_ret3
 exact⟨rfl,below_drewN (hb1.trans (hb2.mono hb1.size)) _⟩
theorem ze8 (x y:Int) (h:18<(zE x).length\/18<(zE y).length) (w:zA):
 Calls zF 63 #[St (zE x),St (zE y),.int .i64 18] w λe w'=>e=.returned (.tuple #[.int .i64 0,.int .i64 0,.bool false])/\w=w':=by
 by_cases hx:(zE x).length<=18
 ·have h1:decide (18<((zE x).length:Int))=false:=by simp;omega
  have h2:decide (18<((zE y).length:Int))=true:=by simp;omega
  clear hx h
  go_enter Tryz.func63,Tryz.ntmps63
  go_wp2_with fail
  go_ret3
  exact⟨rfl,rfl⟩
 ·have h1:decide (18<((zE x).length:Int))=true:=by simp;omega
  clear hx h
  go_enter Tryz.func63,Tryz.ntmps63
  go_wp2_with fail
  go_ret3
  exact⟨rfl,rfl⟩
end Go.Proofs.YtccijmidbdapaaaGreatDoor
namespace Go.Proofs.YtccijmidbdapaaaGreatDoor
open Go
variable {P:Program} {ops:Array Oper}
structure SQ (P:Program) (ops:Array Oper) (w:zA) (Q:Act->Prop) (l:List Oper) (a:Act):Prop where
 out:wpStill P ops w Q l a
theorem SQ.read {w:zA} {Q:Act->Prop} {a:Act} {o:Oper} {rest:List Oper} {v:Value} (hw:Region.wanted o (yielded ops a.tmps)=true)
 (hy:(execOp a.eval o).run P w=.ok (.value v) w) (h:SQ P ops w Q rest (a.put o.dst v)):SQ P ops w Q (o::rest) a:=⟨by
 simp only[wpStill,hw,if_true]
 unfold Oper.still
 rw[hy]
 exact⟨rfl,h.out⟩⟩
theorem SQ.nil {w:zA} {Q:Act->Prop} {a:Act} (h:Q a):SQ P ops w Q [] a:=⟨wpStill_nil h⟩
theorem ztu {l m id:Nat} {Q:Exit->Act->zA->Prop} {a:Act} {w:zA} {ol:List Oper} (n:Nat) (hm:P.follows .mixedOrders=true) (hB:Region.lexTailB .any ol.toArray n=true) (hnd:zhj ol.toArray=true)
 (h:SQ P ol.toArray w.drew (λa'=>wpList P ol.toArray (λe a w=>e=.normal/\Q .normal a w) (ol.drop n) a' w.drew) (ol.take n) a):(Code.region id ol.toArray true).wpIn (Fence.wide.inRound l) m P Q a w:=zis n hm hB hnd h.out
theorem zey {id:Nat} {Q:Exit->Act->zA->Prop} {a:Act} {w:zA} {ol:List Oper} (n:Nat) (S:zA->Prop) (hm:P.follows .mixedOrders=true)
 (hB:(Region.noSelect ol.toArray&&decide (n<ol.length)&&zi7 ol.toArray n 0 (Array.replicate ol.length false)&&Region.seqB .any ol.toArray (ol.length-n) n (zjs n 0 (Array.replicate ol.length false)))=true)
 (hS:S w.drew)
 (h:zex P ol.toArray S (λa'=>zdw P ol.toArray (λe a w=>e=.normal/\Q .normal a w) S (ol.drop n) a' w.drew) (ol.take n) a):
 (Code.region id ol.toArray true).wp P Q a w:=by
 simp only[Bool.and_eq_true,decide_eq_true_eq] at hB
 obtain⟨⟨⟨hsel,hn⟩,hlex⟩,hseq⟩:=hB
 have htl:(ol.take n).length=n:=by simp;omega
 have hdl:(ol.drop n).length=ol.length-n:=by simp
 refine wp_mono (Q:=λe a w=>e=.normal/\Q .normal a w) (wp_region_any hm (wpAny_of_held _ _ _ _ (S:=S) ?_)) (λe a w h=>by obtain⟨rfl,h⟩:=h;exact h)
 have H:=zko (P:=P) (ops:=ol.toArray) (S:=S) (Q:=λe a w=>e=.normal/\Q .normal a w) hsel (λc a b w h=>absurd h.1 (by intro e;cases e)) hS (ol.length-n) (ol.take n) 0 (Array.replicate ol.length false) a
  (λj hj=>by have hj':j<n:=by rw[htl] at hj;exact hj
             simp[hj']) (by rw[htl];exact hlex) (by
    rw[htl]
    refine zhv ?_ _ _ h
    intro a' h'
    have:=zkp (P:=P) (ops:=ol.toArray) (Q:=λe a w=>e=.normal/\Q .normal a w) (S:=S) (ol.drop n) n _ a' _ (λj=>by simp[List.getElem?_drop]) (by rw[hdl];exact hseq) h'
    rwa [hdl] at this)
 rw[htl,show n+(ol.length-n)=ol.length by omega] at H
 simpa using H
def zjw (ops:Array Oper):List (Nat×Bool)->Array Bool->Bool
 |[],listed=>(Region.ready .any ops listed).isEmpty
 |(k,true)::r,listed=>Region.free .any ops listed k&&(Region.ready .any ops listed).contains k&&zjw ops r (listed.setIfInBounds k true)
 |(k,false)::r,listed=>decide (Region.ready .any ops listed=[k])&&zjw ops r (listed.setIfInBounds k true)
def zlp (P:Program) (ops:Array Oper) (Q:Exit->Act->zA->Prop) (S:zA->Prop):List (Nat×Bool)->Act->zA->Prop
 |[],a,w=>Q .normal a w
 |(k,true)::r,a,w=>∃o v,ops[k]? =some o/\YieldsIf P ops S o v a/\zlp P ops Q S r (a.put o.dst v) w
 |(k,false)::r,a,w=>∃o,ops[k]? =some o/\if Region.wanted o (yielded ops a.tmps) then o.wp P a w (λa' w'=>S w'/\zlp P ops Q S r a' w') Q else S w/\zlp P ops Q S r (a.put o.dst undef) w
theorem zof {S:zA->Prop} {Q:Exit->Act->zA->Prop} (hs:Region.noSelect ops=true) (hQ:∀c a b w,Q (.panic c) a w->Q (.panic c) b w):
 ∀(l:List (Nat×Bool)) (listed:Array Bool) (a:Act) (w:zA),zjw ops l listed=true->S w->zlp P ops Q S l a w->wpAnyH P .any ops Q S l.length listed a w
 |[],listed,a,w,hB,_,h=>⟨by simpa [zjw] using hB,h⟩
 |(k,true)::r,listed,a,w,hB,hS,⟨o,v,ho,hy,h⟩=>by
  simp only[zjw,Bool.and_eq_true] at hB
  exact wpAnyH_take ho hs hB.1.1 hB.1.2 (λc a w h=>hQ c _ _ w h) hy hS (zof hs hQ r _ _ _ hB.2 hS h)
 |(k,false)::r,listed,a,w,hB,hS,⟨o,ho,h⟩=>by
  simp only[zjw,Bool.and_eq_true,decide_eq_true_eq] at hB
  refine wpAnyH_all hB.1 (by simp) λi hi=>?_
  obtain rfl:i=k:=by simpa using hi
  have hrec:∀a' w',(S w'/\zlp P ops Q S r a' w')->(S w'/\wpAnyH P .any ops Q S r.length (listed.setIfInBounds i true) a' w'):=λa' w' h'=>⟨h'.1,zof hs hQ r _ _ _ hB.2 h'.1 h'.2⟩
  refine wpOp_mono hrec ?_
  unfold wpOp
  simp only[ho]
  by_cases hw:Region.wanted o (yielded ops a.tmps)=true
  ·simp only[hw,if_true] at h⊢;exact .inl h
  ·simp only[hw,Bool.false_eq_true,if_false] at h⊢;exact h
structure MQ (P:Program) (ops:Array Oper) (Q:Exit->Act->zA->Prop) (S:zA->Prop) (l:List (Nat×Bool)) (a:Act) (w:zA):Prop where
 out:zlp P ops Q S l a w
section
variable {Q:Exit->Act->zA->Prop} {S:zA->Prop} {r:List (Nat×Bool)} {a:Act} {w:zA} {k:Nat} {o:Oper} {v:Value}
theorem MQ.nil (h:Q .normal a w):MQ P ops Q S [] a w:=⟨h⟩
theorem MQ.take (ho:ops[k]? =some o) (hw:Region.wanted o (yielded ops a.tmps)=true) (hy:∀w,S w->(execOp a.eval o).run P w=.ok (.value v) w) (h:MQ P ops Q S r (a.put o.dst v) w):MQ P ops Q S ((k,true)::r) a w:=
 ⟨o,v,ho,.inl ⟨hw,hy⟩,h.out⟩
theorem MQ.only (ho:ops[k]? =some o) (hw:Region.wanted o (yielded ops a.tmps)=true)
 (h:∀K:Act->zA->Prop,(∀a' w',S w'->MQ P ops Q S r a' w'->K a' w')->o.wp P a w K Q):MQ P ops Q S ((k,false)::r) a w:=
 ⟨o,ho,by simp only[hw,if_true];exact h _ λa' w' h1 h2=>⟨h1,h2.out⟩⟩
end
theorem zwm {id:Nat} {Q:Exit->Act->zA->Prop} {a:Act} {w:zA} {ops:Array Oper} (l:List (Nat×Bool)) (S:zA->Prop) (hm:P.follows .mixedOrders=true)
 (hB:(Region.noSelect ops&&decide (l.length=ops.size)&&zjw ops l (Array.replicate ops.size false))=true) (hS:S w.drew)
 (h:MQ P ops (λe a w=>e=.normal/\Q .normal a w) S l a w.drew):(Code.region id ops true).wp P Q a w:=by
 simp only[Bool.and_eq_true,decide_eq_true_eq] at hB
 obtain⟨⟨hsel,hn⟩,hp⟩:=hB
 refine wp_mono (Q:=λe a w=>e=.normal/\Q .normal a w) (wp_region_any hm (wpAny_of_held _ _ _ _ (S:=S) ?_)) (λe a w h=>by obtain⟨rfl,h⟩:=h;exact h)
 have H:=zof (P:=P) hsel (λc a b w h=>absurd h.1 (by intro e;cases e)) l _ _ _ hp hS h.out
 rw[hn] at H
 exact H
end Go.Proofs.YtccijmidbdapaaaGreatDoor
namespace Go.Proofs.YtccijmidbdapaaaGreatDoor
open Go.RowKit Go.Shelf Lib Str Limb
attribute [local go_sem] Oper.semAt_some
theorem zuv (s:ByteArray) (w:zA):
 Calls zF 113 #[.string s] w λe w'=>e=.returned (.func (.func 153) #[] #[.pointer (some ⟨w.heap.size,0,none⟩)])/\w.alloc (.cells #[.string s] 9)=w':=by
 go_enter Tryz.func113,Tryz.ntmps113
 go_wp2
 go_ret
 exact⟨rfl,rfl⟩
theorem zng (l:List UInt8) (i:Nat) (h:i<(⟨l.toArray⟩:ByteArray).size) (h2:i<l.length):(⟨l.toArray⟩:ByteArray)[i]'h=l[i]'h2:=rfl
theorem zyz (l:List UInt8) (h:∀c∈l,48<=c.toNat/\c.toNat<=57) (s:ByteArray) (hs:s=⟨l.toArray⟩) (k:Nat) (hk:k<l.length) (hb:s.size-1-k<s.size):
 ((s[s.size-1-k]'hb).toNat:Int)=(((digL l)[k]?.getD 0:Nat):Int)+48/\(digL l)[k]?.getD 0<10:=by
 have e:=z07 l k hk
 have hl:s.size=l.length:=by rw[hs];show l.toArray.size=_;simp
 have h1:s[s.size-1-k]'hb=l[l.length-1-k]'(by omega):=by
  subst hs
  rw[zng l _ hb (by omega)]
  simp only[hl]
 have:=h _ (List.getElem_mem (show l.length-1-k<l.length by omega))
 rw[h1,e];omega
theorem zwn (Bs:Nat) (l:List UInt8) (hl:∀c∈l,48<=c.toNat/\c.toNat<=57) (hlen:l.length<=100000) (Rd:zA->Prop) (hRd:∀W,Rd W->W.cell? ⟨Bs,0,none⟩=some (St l)):
 IterC Fence.wide 2 zF 153 #[.pointer (some ⟨Bs,0,none⟩)] Rd (λk args=>args= #[I k,I ((digL l)[k]?.getD 0)]) l.length:=by
 intro lp J Jx W hJr _ hY h0
 obtain⟨s,hs⟩:∃s:ByteArray,s=⟨l.toArray⟩:=⟨_,rfl⟩
 have hsz:l.length=s.size:=by rw[hs];show _=l.toArray.size;simp
 have hbyte:=λk=>zyz l hl s hs k
 rw[hsz] at hbyte hlen hY⊢
 change ∀W,Rd W->W.cell? ⟨Bs,0,none⟩=some (.string ⟨l.toArray⟩) at hRd
 rw[<-hs] at hRd
 have hb:=hRd W (hJr 0 W h0)
 have HRd:=hid hRd;clear hRd
 have HY:=hid hY;clear hY
 have HJR:=hid hJr;clear hJr
 have HBY:=hid hbyte;clear hbyte
 clear hs hsz
 refine callsIn_of_wp Tryz.func153 rfl trivial ?_ rfl
 simp only[Tryz.ntmps153,List.size_toArray,yA,List.length_nil,Nat.reduceAdd,Nat.reduceSub,Array.replicate_succ,Array.replicate_zero,List.push_toArray,List.append_toArray,List.nil_append,List.cons_append]
 gi_wp2
 gi_loopw [6] (λi wr=>∃(k:Nat),k<=s.size/\i=.int .i64 (k:Int)/\Hid (J k wr))
  (λi _=>s.size-(RowKit.intOf i).toNat)
 case atStart=>exact⟨0,Nat.zero_le _,rfl,h0⟩
 case round=>
  clear hb
  obtain⟨k,hk,rfl,hJ⟩:=hrel
  by_cases hlt:k<s.size
  ·have hbox:=HRd.out wr (HJR.out k wr hJ.out)
   have hn1:s.size-1-k<s.size:=by omega
   obtain⟨e1,e2⟩:=HBY.out k hlt hn1
   obtain⟨fn,tmps,assign,body,hy,hR⟩:=HY.out k _ wr hJ.out hlt rfl
   gi_wp2
   refine hR.mono ?_
   rintro e W3 (⟨rfl,hJ3⟩|⟨rfl,hJx3⟩)
   ·have HJ3:=hid hJ3;clear hJ3
    gi_wp2
    go_roundw
    case rel=>exact⟨k+1,by omega,by go_num,HJ3.out⟩
    case measure=>simp[RowKit.intOf];omega
   ·have HJx3:=hid hJx3;clear hJx3
    gi_wp2
    refine bodyPost_ret (results_none rfl _ _ _) rfl ?_
    exact⟨⟨_,rfl⟩,.inr HJx3.out⟩
  ·obtain rfl:k=s.size:=by omega
   gi_wp2
   go_end0
   exact⟨⟨_,rfl⟩,.inl hJ.out⟩
theorem zsu {g:Operand} {ps:Array Tmp} {assign body:Code} {Q:Exit->Act->zA->Prop} {a:Act} {w:zA}
 (Bs:Nat) (l:List UInt8) (hl:∀c∈l,48<=c.toNat/\c.toNat<=57) (hlen:l.length<=100000)
 (hg:a.eval g=.func (.func 153) #[] #[.pointer (some ⟨Bs,0,none⟩)]) (hps:ps.size=2)
 {B:Nat} (hB:B<=w.heap.size) (I':Nat->zA->Prop) (Ix:Code->Nat->zA->Prop) (hI:∀k W W',I' k W->CellsKept W W'->Below B W W'->I' k W') (hIx:∀c k W W',Ix c k W->CellsKept W W'->Below B W W'->Ix c k W')
 (hRd:∀k W,I' k W->W.cell? ⟨Bs,0,none⟩=some (St l)) (h0:I' 0 w) (a₁:Nat->Nat->Act)
 (hassign:∀(lp k d:Nat) (W:zA) (K:Act->zA->Prop),K (a₁ k d) W->
   assign.wpIn (Fence.wide.inRound lp) 1 zF (Exit.then K (λ_ _ _=>False)) {tmps:=(ps.zip #[I k,I d]).foldl (λt (p,v)=>t.setIfInBounds p v) a.tmps,defers:=[]} W)
 (hbody:∀(lp k d:Nat) (W:zA),w.heap.size<=lp->I' k W->k<l.length->d=(digL l)[k]?.getD 0->d<10->body.wpIn (Fence.wide.inRound lp) 1 zF (zja w.heap.size I' Ix k W) (a₁ k d) W)
 (hdone:∀(D:Nat) (W:zA),w.heap.size<=D->I' l.length W->W.heap[D]? =some (.deferred (some []))->Q .normal {a with defers:={target:=.collected D,args:= #[]}::a.defers} W)
 (hstop:∀(D:Nat) (c:Code) (k:Nat) (W:zA),w.heap.size<=D->Ix c k W->W.heap[D]? =some (.deferred (some []))->c.wpIn Fence.wide 3 zF Q {a with defers:={target:=.collected D,args:= #[]}::a.defers} W):
 (Code.rangeFunc g ps assign body).wpIn Fence.wide 3 zF Q a w:=
 zqz (n:=3) rfl (by omega) hg trivial (enters_of Tryz.func153 (by kernel_rfl) rfl) (zwn Bs l hl hlen _ (λW h=>h))
  (λk args h=>by subst h;exact hps.symm) hB I' Ix hI hIx hRd h0 (λk _=>a₁ k ((digL l)[k]?.getD 0))
  (λlp k args W K h hK=>by subst h;exact hassign lp k _ W K hK)
  (λlp k args W h1 h2 h3 h4 h5=>hbody lp k _ W h1 h3 h4 rfl (zaj (zfz hl) (by omega) k))
  hdone hstop
theorem Boxed.put {W:zA} {B:Nat} {t:TypeId} {v:Value} (h:Boxed W B t v) (u:Value):Boxed (W.setCell ⟨B,0,none⟩ u) B t u:=by
 unfold Boxed at*;simp[World.setCell,Array.getElem?_modify,h]
structure ReadI (w:zA) (z m:Nat) (b:Bool) (l:List UInt8) (k u:Nat) (W:zA):Prop where
 st:W.heap[z]? =some (.cells #[.bool b,.slice (some ⟨w.heap.size+1,0,none⟩) m m] 125 (0,0))
 un:Boxed W (z+1) 3 (I u)
 sb:Boxed W (z+2) 9 (St l)
 row:Row W (w.heap.size+1) m (zb8 9 (digL l) m k)
 res:W.heap[w.heap.size]? =some (.cells #[.bool false,.slice none 0 0] 125 (0,0))
 below:qL w W
section
variable {w W W':zA} {z m k u:Nat} {b:Bool} {l:List UInt8}
theorem ReadI.kept (h:ReadI w z m b l k u W) (hk:CellsKept W W') (hb:Below w.heap.size W W'):ReadI w z m b l k u W':=
 ⟨hk _ _ _ _ h.st,hk.boxed h.un,hk.boxed h.sb,hk.row h.row,hk _ _ _ _ h.res,h.below.trans hb⟩
theorem ReadI.drew (h:ReadI w z m b l k u W):ReadI w z m b l k u W.drew:=h.kept (λ_ _ _ _ h=>h) (Below.refl _ _).drew
theorem ReadI.unit (h:ReadI w z m b l k u W) (hz:w.heap.size+1<z) (u':Nat):ReadI w z m b l k u' (W.setCell ⟨z+1,0,none⟩ (I u')):=
 ⟨(yE W ⟨z+1,0,none⟩ _ z (by show z≠z+1;omega)).trans h.st,Boxed.put h.un _,h.sb.other (by omega) _,h.row.other (by show w.heap.size+1≠z+1;omega) _,
   (yE W ⟨z+1,0,none⟩ _ w.heap.size (by show w.heap.size≠z+1;omega)).trans h.res,h.below.setCell (p:=⟨z+1,0,none⟩) (by show w.heap.size<=z+1;omega) _⟩
theorem ReadI.limb (h:ReadI w z m b l k u W) (hz:w.heap.size+1<z) {y:Nat} (hy:y=(zb8 9 (digL l) m k)[k/9]?.getD 0+(digL l)[k]?.getD 0*10^(k%9)):ReadI w z m b l (k+1) u (W.setCell ⟨w.heap.size+1,k/9,none⟩ (I y)):=
 ⟨(yE W ⟨w.heap.size+1,k/9,none⟩ _ z (by show z≠w.heap.size+1;omega)).trans h.st,(yE W ⟨w.heap.size+1,k/9,none⟩ _ (z+1) (by show z+1≠w.heap.size+1;omega)).trans h.un,(yE W ⟨w.heap.size+1,k/9,none⟩ _ (z+2) (by show z+2≠w.heap.size+1;omega)).trans h.sb,by subst hy;exact h.row.set (k/9) _,
   (yE W ⟨w.heap.size+1,k/9,none⟩ _ w.heap.size (by show w.heap.size≠w.heap.size+1;omega)).trans h.res,h.below.setCell (p:=⟨w.heap.size+1,k/9,none⟩) (by show w.heap.size<=w.heap.size+1;omega) _⟩
end
theorem z08 (k:Nat):10^(k%9)<=100000000:=by
 have:10^(k%9)<=10^8:=yF (by omega) (by have:=Nat.mod_lt k (show 0<9 by omega);omega)
 exact this
theorem zwo (k:Nat) (h:(k+1)%9≠0):10^(k%9)*10=10^((k+1)%9):=by
 rw[show(k+1)%9=k%9+1 by omega,yO]
theorem Sl.set {w:zA} {v:Value} {l:List Nat} (h:Sl w v (l.map I)) {p:Addr} {c:Value} (hc:w.cell? p=some c) (hn:∀x,c≠I x) (u:Value):Sl (w.setCell p u) v (l.map I):=by
 obtain⟨q,cap,e,hcap,hcs⟩:=h
 refine⟨q,cap,e,hcap,λi x hx=>?_⟩
 obtain⟨b',off,ep,h'⟩:=hcs i x hx
 refine⟨b',off,ep,?_⟩
 rw[World.cell?_setCell_other]
 ·exact h'
 ·rintro rfl
  rw[hc] at h'
  cases h'
  rw[List.getElem?_map] at hx
  cases hl:l[i]? with
  |none=>rw[hl] at hx;cases hx
  |some y=>rw[hl] at hx;cases hx;exact hn y rfl
theorem Sl.trim_at {w:zA} {p:Option Addr} {cap n:Nat} {l:List Nat} (h:Sl w (.slice p n cap) (l.map I)) (hn:l.length=n):Sl w (.slice p (zat l).length cap) ((zat l).map I):=by
 subst hn;exact Sl.trim h
theorem zc3 (x:Int) (w:zA) (hl:digs x<=700):
 Calls zF 65 #[St (zE x)] w λe w'=>∃v,e=.returned (.agg #[.bool (decide (x<0)),v])/\Sl w' v ((zaa B9 x.natAbs).map I)/\Below w.heap.size w w':=by
 have hcp:=Tryz.strings_CutPrefix ⟨(zE x).toArray⟩ ⟨#[45]⟩
 rw[show(⟨(zE x).toArray⟩:ByteArray).data.toList=zE x from rfl,show(⟨#[45]⟩:ByteArray).data.toList=[45] from rfl,zbi,zdx] at hcp
 have HCP:=hid hcp;clear hcp
 obtain⟨l,hll⟩:∃l,l=zD x.natAbs:=⟨_,rfl⟩
 have hdl:=zan x.natAbs
 rw[<-hll] at hdl HCP
 have hlen:l.length<=700:=by rw[hll];exact hl
 have HLL:=hid hll;clear hll
 obtain⟨s,hs⟩:∃s:ByteArray,s=⟨l.toArray⟩:=⟨_,rfl⟩
 have hsz:(s.size:Int)=l.length:=by rw[hs];show(l.toArray.size:Int)=_;simp
 rw[<-hs] at HCP
 have HS:=hid hs;clear hs
 have HSZ:=hid hsz
 have hszb:s.size<=700:=by omega
 clear hsz
 refine(callsIn_wide (n:=3)).1 ?_
 refine callsIn_of_wp_marks Tryz.func65 rfl trivial ?_ rfl
 simp only[Tryz.ntmps65,List.size_toArray,yA,List.length_nil,Nat.reduceAdd,Nat.reduceSub,Array.replicate_succ,Array.replicate_zero,List.push_toArray,List.append_toArray,List.nil_append,List.cons_append]
 gi_wp2_with (refine⟨trivial,?_⟩;gi_at_call 112;refine(callsIn_wide.2 (HCP.out _)).mono ?_)
 rintro e w1 ⟨rfl,rfl⟩
 obtain⟨m,hm⟩:∃m,m=(s.size+9-1)/9:=⟨_,rfl⟩
 have hmi:((s.size:Int)+9-1)/9=(m:Int):=by omega
 have hmb:m<=100:=by omega
 have hm9:s.size<=9*m:=by omega
 obtain⟨w2,hmk,hrow,hb2⟩:=zg2 (w.alloc (.cells #[.bool false,.slice none 0 0] 125)) w.heap.size m (by simp) (by omega)
 rw[<-hmi] at hmk
 have HMI:=hid hmi;clear hmi
 have HM:=hid hm;clear hm
 have hB2:qL w w2:=((Below.refl _ w).alloc (Nat.le_refl _) _).trans (hb2.mono (by simp))
 have bR:w2.heap[w.heap.size]? =some (.cells #[.bool false,.slice none 0 0] 125 (0,0)):=(hb2.block _ (by simp)).trans (zG w _)
 simp only[zH] at hrow hmk
 clear hb2
 gi_wp2_with (refine⟨trivial,?_⟩;gi_at_call 113;refine(callsIn_wide.2 (zuv s _)).mono ?_)
 rintro e w5 ⟨rfl,rfl⟩
 have hz:=hrow.lt
 have hI0:ReadI w w2.heap.size m (decide (x<0)) l 0 1 (((w2.alloc (.cells #[.bool (decide (x<0)),.slice (some ⟨w.heap.size+1,0,none⟩) m m] 125)).alloc (.cells #[.int .i64 1] 3)).alloc (.cells #[.string s] 9)):=by
  have hz0:=hB2.size
  refine⟨?_,?_,?_,((hrow.alloc _).alloc _).alloc _,?_,((hB2.alloc hB2.size _).alloc (by simp;omega) _).alloc (by simp;omega) _⟩
  ·exact(Below.heap_alloc _ _ _ (by simp only[zH];omega)).trans ((Below.heap_alloc _ _ _ (by simp only[zH];omega)).trans (zG w2 _))
  ·have:=Boxed.new (w2.alloc (.cells #[.bool (decide (x<0)),.slice (some ⟨w.heap.size+1,0,none⟩) m m] 125)) 3 (.int .i64 1)
   rw[zH] at this
   exact this.alloc _
  ·have:=Boxed.new ((w2.alloc (.cells #[.bool (decide (x<0)),.slice (some ⟨w.heap.size+1,0,none⟩) m m] 125)).alloc (.cells #[.int .i64 1] 3)) 9 (.string s)
   rw[zH,zH,HS.out] at this
   rw[HS.out];exact this
  ·exact(Below.heap_alloc _ _ _ (by simp only[zH];omega)).trans ((Below.heap_alloc _ _ _ (by simp only[zH];omega)).trans ((Below.heap_alloc _ _ _ (by omega)).trans bR))
 have hs5:((w2.alloc (.cells #[.bool (decide (x<0)),.slice (some ⟨w.heap.size+1,0,none⟩) m m] 125)).alloc (.cells #[.int .i64 1] 3)).heap.size=w2.heap.size+2:=by simp
 rw[hs5]
 have hm9':l.length<=9*m:=by have:=HSZ.out;omega
 clear hs5 hmk hrow bR hB2 hm9
 generalize ((w2.alloc (.cells #[.bool (decide (x<0)),.slice (some ⟨w.heap.size+1,0,none⟩) m m] 125)).alloc (.cells #[.int .i64 1] 3)).alloc (.cells #[.string s] 9)=W5 at*
 generalize w2.heap.size=z at*
 clear w2
 generalize hbx:decide (x<0)=b at*
 have HBX:=hid hbx;clear hbx
 gi_wp2
 refine zsu (z+2) l hdl (by omega) rfl rfl (B:=w.heap.size) hI0.below.size (λk W=>∃u,ReadI w z m b l k u W/\(k%9≠0->u=10^(k%9))/\u<=1000000000) (λ_ _ _=>False)
  (λk W W' h hk hb=>let ⟨u,h1,h2⟩:=h;⟨u,h1.kept hk hb,h2⟩) (λ_ _ _ _ h _ _=>h) (λk W h=>let ⟨u,h1,_⟩:=h;h1.sb.cell) ⟨1,hI0,by simp,by omega⟩ ?a1 ?assign ?body ?done ?stop
 case stop=>exact λ_ _ _ _ _ h _=>h.elim
 case assign=>
  intro lp k d W K hK
  gi_wp2
  exact hK
 case body=>
  rintro lp k d W hlp ⟨u,hI,hu1,hu2⟩ hk hd hd10
  obtain⟨r1,r2, -,r4, -⟩:=zgp (p:=9) (by omega) (zfz hdl) (m:=m) (by rw[zfi];exact hm9') k (by rw[zfi];omega)
  have hkm:k/9<m:=by omega
  have hp:=z08 k
  have hpn:=zwo k
  have HPN:=hid hpn;clear hpn
  obtain⟨y,hy⟩:∃y,y=(zb8 9 (digL l) m k)[k/9]?.getD 0:=⟨_,rfl⟩
  have hyb:y<1000000000:=by rw[hy];exact zaj r2 (by decide) _
  have HU1:=hid hu1;clear hu1
  have hlr:=hI.row.cell (getD_some (show k/9<(zb8 9 (digL l) m k).length by rw[r1];exact hkm))
  rw[<-hy] at hlr
  have hfr:=hI.row.frozen (k/9)
  have HY:=hid hy;clear hy r1 r2 r4
  have HDD:=hid hd;clear hd
  have cx:W.cell? ⟨z,1,none⟩=some (.slice (some ⟨w.heap.size+1,0,none⟩) m m):=by simp[World.cell?,hI.st]
  have bu:=hI.un
  have cu:=bu.cell;have fu:=bu.frozen
  obtain⟨q,hq⟩:∃q,q=k/9:=⟨_,rfl⟩
  rw[<-hq] at hkm hlr hfr
  have w1:IntKind.i64.wrap ((k:Int)/9)=(q:Int):=(zI _ (by omega)).trans (by omega)
  have HQ:=hid hq;clear hq
  obtain⟨P,hP⟩:∃P,P=10^(k%9):=⟨_,rfl⟩
  rw[<-hP] at hp HPN HU1
  have HP:=hid hP;clear hP
  by_cases hk9:k%9=0
  ·have hb9:(((k:Int)%9)==0)=true:=by rw[beq_iff_eq];omega
   have HK9:=hid hk9;clear hk9
   have cu1:=za9 (u:=.int .i64 1) cu
   have cx1:=(zau W (b:=z) (b':=z+1) 1 0 (.int .i64 1) (by omega)).trans cx
   have cl1:=(zau W (b:=w.heap.size+1) (b':=z+1) q 0 (.int .i64 1) (by omega)).trans hlr
   have hI1:=hid (show ReadI w z m b l k 1 (W.setCell ⟨z+1,0,none⟩ (.int .i64 1)) from hI.unit hz 1)
   have w2:IntKind.i64.wrap (d:Int)=(d:Int):=zI _ (by omega)
   have w3:IntKind.i64.wrap ((y:Int)+d)=(y:Int)+d:=zI _ (by omega)
   have W1:=hid w1;have W2:=hid w2;have W3:=hid w3
   clear w1 w2 w3
   gi_wp2
   clear cu cx hlr
   have w1:=W1.out;have w2:=W2.out;have w3:=W3.out
   (refine ztu 11 (by kernel_rfl) (by kernel_rfl) (by kernel_rfl) ?_;simp only[List.take_succ_cons,List.take_zero,List.drop_succ_cons,List.drop_zero];(repeat(first|(apply SQ.read (by rfl);(focus(go_simp;try with_reducible rfl));try simp only[zzQ])|(apply SQ.skip (by rfl);try simp only[zzQ])));refine SQ.nil ?_)
   clear cx1 w1 w2 w3 W1 W2 W3 cu1
   have hI2:=hI1.out.limb hz (y:=y+d) (by
    rw[<-HY.out,<-HDD.out,<-HP.out,show P=1 by rw[HP.out,HK9.out],Nat.mul_one])
   rw[<-HQ.out] at hI2
   have bu2:=hI2.un
   have cu2:=bu2.cell;have fu2:=bu2.frozen
   rw[show I (y+d)=Value.int .i64 ((y:Int)+d) by simp[I]] at hI2 cu2 fu2
   have HI2:=hid hI2
   clear hI1 bu2 bu fu
   go_wp2
   gi_wp2
   exact⟨((KeepsOthers.setCell W _ _).trans ((KeepsOthers.setCell _ _ _).trans ((KeepsOthers.setCell _ _ _).trans (KeepsOthers.drew _)))).from _,10,(HI2.out.unit hz 10).drew,
    λh=>by rw[<-HPN.out h,show P=1 by rw[HP.out,HK9.out]],by omega⟩
  ·have hb9:(((k:Int)%9)==0)=false:=by rw[beq_eq_false_iff_ne];omega
   have hu:=HU1.out hk9
   have HK9:=hid hk9;clear hk9
   subst hu
   obtain⟨p,hp'⟩:∃p,p=d*u:=⟨_,rfl⟩
   have hpb:p<=900000000:=by rw[hp'];exact Nat.mul_le_mul (show d<=9 by omega) hp
   have hI1:=hid hI
   have w2:IntKind.i64.wrap ((d:Int)*(u:Int))=(p:Int):=(zI _ (by rw[<-Int.natCast_mul,<-hp'];omega)).trans (by rw[hp'];simp)
   have w3:IntKind.i64.wrap ((y:Int)+p)=(y:Int)+p:=zI _ (by omega)
   have HPD:=hid hp';clear hp'
   have W1:=hid w1;have W2:=hid w2;have W3:=hid w3
   clear w1 w2 w3
   gi_wp2
   have w1:=W1.out;have w2:=W2.out;have w3:=W3.out
   (refine ztu 11 (by kernel_rfl) (by kernel_rfl) (by kernel_rfl) ?_;simp only[List.take_succ_cons,List.take_zero,List.drop_succ_cons,List.drop_zero];(repeat(first|(apply SQ.read (by rfl);(focus(go_simp;try with_reducible rfl));try simp only[zzQ])|(apply SQ.skip (by rfl);try simp only[zzQ])));refine SQ.nil ?_)
   clear cx w1 w2 w3 W1 W2 W3 cu
   have hI2:=hI1.out.limb hz (y:=y+p) (by
    rw[<-HY.out,<-HDD.out,<-HP.out,HPD.out])
   rw[<-HQ.out] at hI2
   have bu2:=hI2.un
   have cu2:=bu2.cell;have fu2:=bu2.frozen
   rw[show I (y+p)=Value.int .i64 ((y:Int)+p) by simp[I]] at hI2 cu2 fu2
   have HI2:=hid hI2
   clear hI1 bu2 bu fu hI
   go_wp2
   gi_wp2
   have hf:=(HI2.out.unit hz (u*10)).drew
   rw[show I (u*10)=Value.int .i64 ((u:Int)*10) by simp[I]] at hf
   exact⟨((KeepsOthers.setCell W _ _).trans ((KeepsOthers.setCell _ _ _).trans (KeepsOthers.drew _))).from _,u*10,hf,λh=>HPN.out h,by omega⟩
 case done=>
  rintro D W hD ⟨u,hI, -, -⟩ hK
  have hr:=hI.row
  have hrl:=zus (p:=9) (by omega) x.natAbs m (by rw[<-HLL.out];exact hm9')
  rw[<-HLL.out] at hrl
  obtain⟨L,hL⟩:∃L,L=zb8 9 (digL l) m l.length:=⟨_,rfl⟩
  rw[<-hL] at hr hrl
  have hrl9:zat L=zaa B9 x.natAbs:=hrl
  have hLl:L.length=m:=by rw[hL];exact(zgp (p:=9) (by omega) (zfz hdl) (m:=m) (by rw[zfi];exact hm9') l.length (by rw[zfi];omega)).1
  have hsl:=hr.sl
  rw[hLl] at hsl
  have htr:=zi6 (some ⟨w.heap.size+1,0,none⟩) m m L W hsl (by omega)
  rw[hrl9] at htr
  have HTR:=hid htr;clear htr
  have hst:=hsl.trim_at hLl
  rw[hrl9] at hst
  have HSL:=hid hst;clear hst hsl hr hrl hrl9 hLl hL
  have HI:=hid hI
  have cx:W.cell? ⟨z,1,none⟩=some (.slice (some ⟨w.heap.size+1,0,none⟩) m m):=by simp[World.cell?,hI.st]
  have fx:W.frozen? ⟨z,1,none⟩=false:=by simp[World.frozen?,hI.st]
  have cx0:W.cell? ⟨z,0,none⟩=some (.bool b):=by simp[World.cell?,hI.st]
  have cr0:W.cell? ⟨w.heap.size,0,none⟩=some (.bool false):=by simp[World.cell?,hI.res]
  have cr1:W.cell? ⟨w.heap.size,1,none⟩=some (.slice none 0 0):=by simp[World.cell?,hI.res]
  have fr0:W.frozen? ⟨w.heap.size,0,none⟩=false:=by simp[World.frozen?,hI.res]
  have fr1:W.frozen? ⟨w.heap.size,1,none⟩=false:=by simp[World.frozen?,hI.res]
  have hne:w.heap.size≠z:=by omega
  have hne2:z≠w.heap.size:=by omega
  clear hI
  have HK:=hid hK;clear hK
  gi_wp2_with (refine⟨trivial,?_⟩;gi_at_call 114;refine(callsIn_wide.2 HTR.out).mono ?_)
  rintro e w9 ⟨rfl,rfl⟩
  gi_wp2
  have hK3:=(((KeepsOthers.setCell W ⟨z,1,none⟩ (.slice (some ⟨w.heap.size+1,0,none⟩) (zaa B9 x.natAbs).length m)).trans (KeepsOthers.setCell _ ⟨w.heap.size,0,none⟩ (.bool b))).trans (KeepsOthers.setCell _ ⟨w.heap.size,1,none⟩ (.slice (some ⟨w.heap.size+1,0,none⟩) (zaa B9 x.natAbs).length m))).same D _ HK.out rfl
  refine⟨by simp,.inl ⟨_,_,rfl,run_takeDeferred hK3,?_⟩⟩
  have d0:=(zau W (b:=w.heap.size) (b':=z) 0 1 (.slice (some ⟨w.heap.size+1,0,none⟩) (zaa B9 x.natAbs).length m) hne).trans cr0
  have d1:=(zau W (b:=w.heap.size) (b':=z) 1 1 (.slice (some ⟨w.heap.size+1,0,none⟩) (zaa B9 x.natAbs).length m) hne).trans cr1
  have e1:=(World.cell?_setCell_other _ _ _ (.bool b) (show(⟨w.heap.size,0,none⟩:Addr)≠⟨w.heap.size,1,none⟩ by simp)).trans d1
  have e0:=za9 (u:=.bool b) d0
  have g0:=(zbk hK3).cell ((World.cell?_setCell_other _ _ _ _ (show(⟨w.heap.size,1,none⟩:Addr)≠⟨w.heap.size,0,none⟩ by simp)).trans e0)
  have g1:=(zbk hK3).cell (za9 (u:=.slice (some ⟨w.heap.size+1,0,none⟩) (zaa B9 x.natAbs).length m) e1)
  have hs1:=HSL.out.set cx (λx=>by simp[I]) (.slice (some ⟨w.heap.size+1,0,none⟩) (zaa B9 x.natAbs).length m)
  have hs2:=hs1.set d0 (λx=>by simp[I]) (.bool b)
  have hs3:=hs2.set e1 (λx=>by simp[I]) (.slice (some ⟨w.heap.size+1,0,none⟩) (zaa B9 x.natAbs).length m)
  refine⟨.agg #[.bool b,.slice (some ⟨w.heap.size+1,0,none⟩) (zaa B9 x.natAbs).length m],?_,_,by rw[HBX.out],(zbk hK3).sl hs3,zby (((HI.out.below.setCell (p:=⟨z,1,none⟩) (by show w.heap.size<=z;omega) _).setCell (p:=⟨w.heap.size,0,none⟩) (by simp) _).setCell (p:=⟨w.heap.size,1,none⟩) (by simp) _) (by have:=hI0.below.size;omega) hK3⟩
  simp[results,Tryz.f65,go_sem,g0,g1]
end Go.Proofs.YtccijmidbdapaaaGreatDoor
