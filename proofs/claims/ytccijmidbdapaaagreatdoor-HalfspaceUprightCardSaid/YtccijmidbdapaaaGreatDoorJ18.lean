/- surds that are rational numbers. -/
import Derived.Test.YtccijmidbdapaaaGreatDoorJ17
set_option maxRecDepth 100000
set_option maxHeartbeats 8000000
open Go renaming World → zA, Calls → zC
open Go.RowKit renaming Below → zB
open Go.Lib renaming decDigits → zD
open Go.Proofs.Tryz renaming prog → zF
open Go.World renaming alloc_heap_new → zG, size_alloc → zH
open Go.Joins renaming cell_of_block → zJ, block_setCell → zK
open Go.RowKit.Below renaming refl → zM, heap_setCell → yE
open Nat renaming le_refl → zN, le_trans → zO, pow_le_pow_right → yF
namespace Go.Proofs.YtccijmidbdapaaaGreatDoor
open Go.RowKit Go.Shelf Lib Str Limb
attribute [local go_sem] Oper.semAt_some
def rs (q:Rat):List (Rat×Nat):=if q=0 then[] else[(q,1)]
theorem za2:rs 0=[]:=by unfold rs;rw[if_pos rfl]
theorem zbz {q:Rat} (h:q≠0):rs q=[(q,1)]:=by unfold rs;rw[if_neg h]
theorem zc8 {q:Rat} (h:sz q 60):SdOk (rs q):=by
 unfold rs
 split
 ·exact SdOk.nil
 ·exact SdOk.one ⟨by assumption,h,zyl.1⟩
theorem zd2 {q:Rat} {t:Rat×Nat} (h:t∈rs q):t=(q,1)/\q≠0:=by
 unfold rs at h
 split at h
 ·cases h
 ·simp at h;exact⟨h,by assumption⟩
theorem zls (a:Rat) {c:Rat} (hc:c≠0):sclL (rs a) c=rs (a*c):=by
 by_cases h:a=0
 ·rw[h,Rat.zero_mul,za2];rfl
 ·rw[zbz h,zbz (λe=>by rcases Rat.mul_eq_zero.1 e with e|e;exact h e;exact hc e)];rfl
theorem zrm (a c:Rat):sclR (rs a) c=rs (a*c):=by
 unfold sclR
 split
 ·rename_i h;rw[h,Rat.mul_zero,za2]
 ·rename_i h;exact zls a h
theorem zb0 (a b:Rat):mkR (rs a++rs b)=rs (a+b):=by
 by_cases ha:a=0
 ·by_cases hb:b=0
  ·rw[ha,hb,Rat.add_zero,za2];simp[mkR]
  ·rw[ha,za2,Rat.zero_add,zbz hb];simp[mkR,gAdd,hb]
 ·by_cases hb:b=0
  ·rw[hb,za2,Rat.add_zero,zbz ha];simp[mkR,gAdd,ha]
  ·rw[zbz ha,zbz hb]
   by_cases hab:a+b=0
   ·rw[hab,za2];simp[mkR,gAdd,hab]
   ·rw[zbz hab];simp[mkR,gAdd,hab]
theorem zrq (a b:Rat) (i:Nat) {c:Rat×Nat} (h:c∈gRun (rs a++rs b) i):c.1=a\/c.1=b\/c.1=a+b:=by
 have key:∀l:List (Rat×Nat),(l=[]\/l=[(a,1)]\/l=[(b,1)]\/l=[(a,1),(b,1)])->∀c∈l.foldl gAdd [],c.1=a\/c.1=b\/c.1=a+b:=by
  rintro l (rfl|rfl|rfl|rfl) c hc
  ·simp at hc
  ·simp[gAdd] at hc;subst hc;exact .inl rfl
  ·simp[gAdd] at hc;subst hc;exact .inr (.inl rfl)
  ·simp[gAdd] at hc;subst hc;exact .inr (.inr rfl)
 refine key _ ?_ c h
 by_cases ha:a=0
 ·by_cases hb:b=0
  ·rw[ha,hb,za2];left;simp
  ·rw[ha,za2,zbz hb]
   match i with
   |0=>left;rfl
   |i+1=>right;right;left;simp
 ·by_cases hb:b=0
  ·rw[hb,za2,zbz ha]
   match i with
   |0=>left;rfl
   |i+1=>right;left;simp
  ·rw[zbz ha,zbz hb]
   match i with
   |0=>left;rfl
   |1=>right;left;rfl
   |i+2=>right;right;right;simp
theorem zf6 {a b:Rat} (ha:sz a 60) (hb:sz b 60):MkT (rs a++rs b):=by
 have hm:∀t∈rs a++rs b,t.2=1/\t.1≠0/\sz t.1 60:=λt ht=>by
  rcases List.mem_append.1 ht with h|h
  ·obtain⟨rfl,h0⟩:=zd2 h;exact⟨rfl,h0,ha⟩
  ·obtain⟨rfl,h0⟩:=zd2 h;exact⟨rfl,h0,hb⟩
 have hl:∀q:Rat,(rs q).length<=1:=λq=>by unfold rs;split<;>simp
 refine⟨by rw[List.length_append];have:=hl a;have:=hl b;omega,λt ht=>(hm t ht).2.1,λt ht=>(hm t ht).2.2.mono (by omega),λt ht=>by rw[(hm t ht).1];exact zyl.1,λt ht u hu hn=>?_,λi _ c hc=>?_⟩
 ·exact absurd ((hm t ht).1.trans (hm u hu).1.symm) hn
 ·rcases zrq a b i hc with e|e|e
  ·rw[e];exact ha.mono (by omega)
  ·rw[e];exact hb.mono (by omega)
  ·rw[e];exact(zk0 ha hb).mono (by omega)
theorem zkd (q:Rat):incR (rs q):=by
 intro i t u h1 h2
 have a1:=(List.getElem?_eq_some_iff.1 h2).1
 have:(rs q).length<=1:=by unfold rs;split<;>simp
 omega
theorem zkj (q:Rat):(rs q).length<=12:=by unfold rs;split<;>simp
theorem zny (v1 v2:Value) (a b:Rat) (ha:sz a 60) (hb:sz b 60) (hab:sz (a+b) 60) (w:zA) (HW:Hid (∀W,qL w W->Wd W)) (HP:Hid (∀W,qL w W->Pw W)) (h1:SdL v1 (rs a) w) (h2:SdL v2 (rs b) w):
 zC zF 89 #[v1,v2] w λe w'=>∃v,e=.returned (.tuple #[v,.int .i64 0])/\zB w.heap.size w w'/\SdL v (rs (a+b)) w':=by
 have:=zqd v1 v2 (rs a) (rs b) (zc8 ha) (zc8 hb) (zf6 ha hb) (by rw[zb0];intro c hc;obtain⟨rfl,_⟩:=zd2 hc;exact hab) (by rw[zb0];exact zkj _) (by rw[zb0];exact zkd _) w HW HP h1 h2
 rw[zb0] at this
 exact this
theorem zce {q:Rat} {k:Nat} (h:sz q k):sz (-q) k:=⟨by rw[show(-q).num= -q.num from rfl,Int.natAbs_neg];exact h.1,h.2⟩
theorem zsh (v1 v2:Value) (a b:Rat) (ha:sz a 60) (hb:sz b 60) (hab:sz (a-b) 60) (w:zA) (HW:Hid (∀W,qL w W->Wd W)) (HP:Hid (∀W,qL w W->Pw W)) (h1:SdL v1 (rs a) w) (h2:SdL v2 (rs b) w):
 zC zF 43 #[v1,v2] w λe w'=>∃v,e=.returned (.tuple #[v,.int .i64 0])/\zB w.heap.size w w'/\SdL v (rs (a-b)) w':=by
 have e1:sclL (rs b) (-1)=rs (-b):=by rw[zls b (by decide)];congr 1;grind
 have e2:a+ -b=a-b:=by grind
 have:=zqe v1 v2 (rs a) (rs b) (zc8 ha) (zc8 hb) (by rw[e1];exact zf6 ha (zce hb)) (by rw[e1,zb0,e2];intro c hc;obtain⟨rfl,_⟩:=zd2 hc;exact hab) (by rw[e1,zb0];exact zkj _) (by rw[e1,zb0];exact zkd _) w HW HP h1 h2
 rw[e1,zb0,e2] at this
 exact this
theorem zd3 (v:Value) (a c:Rat) (ha:sz a 60) (hc:sz c 150) (hac:sz (a*c) 60) (w:zA) (HW:Hid (∀W,qL w W->Wd W)) (HP:Hid (∀W,qL w W->Pw W)) (h:SdL v (rs a) w):
 zC zF 88 #[v,St (numS c)] w λe w'=>∃v',e=.returned (.tuple #[v',.int .i64 0])/\zB w.heap.size w w'/\SdL v' (rs (a*c)) w':=by
 have:=zh3 v (rs a) c (zc8 ha) hc (λt ht=>by obtain⟨rfl,_⟩:=zd2 ht;exact hac) w HW HP h
 rw[zrm] at this
 exact this
theorem zrs (v:Value) (a:Rat) (ha:sz a 60) (w:zA) (HW:Hid (∀W,qL w W->Wd W)) (HP:Hid (∀W,qL w W->Pw W)) (h:SdL v [(a,1)] w):
 zC zF 80 #[v] w λe w'=>∃v',e=.returned (.tuple #[v',.int .i64 0])/\zB w.heap.size w w'/\SdL v' (rs a) w':=by
 by_cases e:a=0
 ·subst e
  rw[za2]
  exact zjg [(0,1)] (by simp) (λt ht=>by simp at ht;rw[ht]) (λt ht=>by simp at ht;rw[ht];exact zyl.1) v w HW h
 ·have h2:[(a,1)]=rs a++rs 0:=by rw[za2,zbz e];rfl
  rw[h2] at h
  have:=zhh (rs a++rs 0) (zf6 ha (zqf 60 (by omega))) (by rw[zb0,Rat.add_zero];intro c hc;obtain⟨rfl,_⟩:=zd2 hc;exact ha) (by rw[zb0];exact zkj _) (by rw[zb0];exact zkd _) v w HW HP h
  rw[zb0,Rat.add_zero] at this
  exact this
theorem zkl (p:Option Addr) (cap:Nat) (w:zA):
 qJ 93 #[.slice p 0 cap] w (.tuple #[.int .i64 0,.int .i64 0]):=by
 go_enter Tryz.func93,Tryz.ntmps93
 go_wp2_with fail
 go_ret2
 exact⟨rfl,zM _ _⟩
theorem zff (p:Option Addr) (n cap:Nat) (s e0:Int) (w:zA)
 (K:Hid (qJ 40 #[.slice p n cap] w (.int .i64 0)))
 (S:Hid (∀W:zA,qL w W->qJ 93 #[.slice p n cap] W (.tuple #[.int .i64 s,.int .i64 e0]))):
 qJ 44 #[.slice p n cap] w (.tuple #[.int .i64 s,.int .i64 e0]):=by
 go_enter Tryz.func44,Tryz.ntmps44
 go_wp2_with fail
 refine K.out.mono ?_
 rintro e w1 ⟨rfl,hb1⟩
 have B1:=hid hb1
 have HS:=hid (S.out w1 hb1)
 clear hb1 S
 go_wp2_with fail
 refine HS.out.mono ?_
 rintro e w2 ⟨rfl,hb2⟩
 have B2:=hid (B1.out.trans (hb2.mono B1.out.size));clear hb2
 go_wp2_with fail
 go_ret2
 exact⟨rfl,B2.out⟩
theorem zpl {Z:Nat->Int} (h:∀k,k<3->0<=Z k) (h2:0<Z 2):sgnP 1 Z=1:=by
 have r:∀k,0<=Z k->zap 1 k (Z k)=1\/zap 1 k (Z k)=0:=λk hk=>by
  unfold zap
  split
  ·exact .inl rfl
  ·right;rw[if_neg (by omega)]
 have s2:zap 1 2 (Z 2)=1:=by unfold zap;rw[if_pos h2]
 unfold sgnP
 rcases r 0 (h 0 (by omega)) with s0|s0<;>rcases r 1 (h 1 (by omega)) with s1|s1<;>simp[s0,s1,s2]
theorem zpo {Z:Nat->Int} (h:∀k,k<3->Z k<= -1):sgnP 1 Z= -1:=by
 have r:∀k,Z k<= -1->zap 1 k (Z k)= -1\/zap 1 k (Z k)=0:=λk hk=>by
  unfold zap
  rw[if_neg (by omega)]
  split
  ·exact .inl rfl
  ·exact .inr rfl
 have s2:zap 1 2 (Z 2)= -1:=by
  have:=h 2 (by omega)
  unfold zap;rw[if_neg (by omega),if_pos (by omega)]
 unfold sgnP
 rcases r 0 (h 0 (by omega)) with s0|s0<;>rcases r 1 (h 1 (by omega)) with s1|s1<;>simp[s0,s1,s2]
def flq (q:Rat) (k:Nat):Int:=floT q (q.num.natAbs*10^plN k) (q.num.natAbs*q.num.natAbs*1*10^(2*plN k))
theorem zn3 (k:Nat):plN k<=64:=by
 match k with
 |0=>decide
 |1=>decide
 |_+2=>exact zN _
theorem zpp (q:Rat) (h:sz q 60):(0<q->(∀k,k<3->0<=flq q k)/\0<flq q 2)/\(q<0->∀k,k<3->flq q k<= -1):=by
 constructor
 ·intro hq
  have hn:¬q.num<0:=by have:=Rat.num_nonneg.2 (Rat.le_of_lt hq);omega
  have hn0:0<q.num.natAbs:=by
   have:q.num≠0:=λe=>by have:=Rat.num_eq_zero.1 e;grind
   omega
  have e:∀k,flq q k=((q.num.natAbs*10^plN k/q.den:Nat):Int):=λk=>by unfold flq floT;rw[if_neg hn]
  refine⟨λk _=>by rw[e];exact Int.natCast_nonneg _,?_⟩
  rw[e]
  have h1:q.den<=q.num.natAbs*10^plN 2:=by
   have h2:q.den<10^60:=h.2
   have h3:(10:Nat)^60<=10^plN 2:=yF (by omega) (by decide)
   have h4:10^plN 2<=q.num.natAbs*10^plN 2:=Nat.le_mul_of_pos_left _ hn0
   omega
  have:=Nat.div_pos h1 q.den_pos
  omega
 ·intro hq k _
  have hn:q.num<0:=by
   rcases Int.lt_or_le q.num 0 with h|h
   ·exact h
   ·have:=Rat.num_nonneg.1 h;grind
  have hs:0<q.num.natAbs*10^plN k:=Nat.mul_pos (by omega) (Nat.pos_of_ne_zero (by simp))
  unfold flq floT
  rw[if_pos hn]
  generalize q.num.natAbs*10^plN k=s at*
  split
  ·rename_i hd
   have:q.den<=s:=Nat.le_of_dvd hs (Nat.dvd_of_mod_eq_zero hd.2)
   have:=Nat.div_pos this q.den_pos
   generalize s/q.den=x at*
   omega
  ·generalize s/q.den=x at*
   omega
theorem zrz (v:Value) (q:Rat) (h:sz q 60) (w:zA) (hw:Wd w) (hp:Spw w) (hv:SdL v (rs q) w):
 qJ 93 #[v] w (.tuple #[.int .i64 (Geo.cmpR q 0),.int .i64 0]):=by
 obtain⟨p,cap,rfl, -,hx⟩:=hv.slice
 by_cases h0:q=0
 ·subst h0
  rw[show(rs 0).length=0 by rw[za2];rfl,show Geo.cmpR 0 0=0 by simp[Geo.cmpR]]
  exact zkl p cap w
 have hl:(rs q).length=1:=by rw[zbz h0];rfl
 rw[hl]
 have z48:itoa 0=[48]:=zb9
 have z49:itoa 1=[49]:=by rw[show(1:Int)=((1:Nat):Int) from rfl,Str.zad,zae (by omega)];rfl
 have hsb:∀k,q.num.natAbs*10^plN k<10^124:=λk=>by
  have h1:=h.1
  have h2:(10:Nat)^plN k<=10^64:=yF (by omega) (zn3 k)
  calc q.num.natAbs*10^plN k<10^60*10^plN k:=Nat.mul_lt_mul_of_pos_right h1 (Nat.pos_of_ne_zero (by simp))
   _<=10^60*10^64:=Nat.mul_le_mul_left _ h2
   _=10^124:=by rw[<-Nat.pow_add]
 have hfb:∀k,(flq q k).natAbs<=10^124:=λk=>by
  have hs:=hsb k
  have hd:=Nat.div_le_self (q.num.natAbs*10^plN k) q.den
  unfold flq floT
  generalize q.num.natAbs*10^plN k/q.den=x at*
  split
  ·rw[Int.natAbs_neg,Int.natAbs_natCast]
   split<;>omega
  ·rw[Int.natAbs_natCast]
   omega
 have dz:∀z:Int,z.natAbs<=10^124+2->digs z<=300:=λz hz=>by
  have p1:(10:Nat)^124+2<10^125:=by decide+kernel
  exact zO (zhd (k:=125) (by omega) (by omega)) (by omega)
 have hsq:∀k,q.num.natAbs*10^plN k*(q.num.natAbs*10^plN k)=q.num.natAbs*q.num.natAbs*1*10^(2*plN k):=λk=>by
  rw[Nat.mul_one,Nat.two_mul,Nat.pow_add];ac_rfl
 have hall:=zj5 p cap 1 (by omega) (by omega) (λ_=>numS q) (λ_=>zD 1) (λk _=>flq q k) (λk i=>if i=0 then 0 else flq q k) (hid λk=>rfl)
  (hid λk i hk hi W hW=>by
    have hN:q.num.natAbs*q.num.natAbs*1*10^(2*plN k)<10^248:=by
     rw[<-hsq k]
     exact zcc (hsb k) (hsb k)
    exact zul q 1 (plN k) (q.num.natAbs*10^plN k) _ (zd0 (by omega) (by omega) h) h0 (by omega) (by have:=zn3 k;omega) rfl (zO (zil (by omega) hN) (by omega)) ⟨Nat.le_of_eq (hsq k),by rw[<-hsq k];exact Nat.mul_lt_mul_of_lt_of_lt (by omega) (by omega)⟩ W hW)
  (hid λk i hk hi W hW=>by
    obtain rfl:i=0:=by omega
    have hf:=hfb k
    have:=zva 0 (flq q k) (dz _ (by omega)) (dz _ (by omega)) (dz _ (by omega)) W hW
    rw[Int.zero_add] at this
    exact this)
  (hid λk j hk hj W hW=>by
    obtain rfl:j=0:=by omega
    have hf:=hfb k
    have:=zva (flq q k) 1 (dz _ (by omega)) (dz _ (by omega)) (dz _ (by omega)) W hW
    rw[z49] at this
    show zC _ _ #[St (itoa (flq q k+0)),_] _ _
    rw[Int.add_zero]
    exact this)
  (hid λk j hk hj W hW=>by
    have hf:=hfb k
    have:=zsx (flq q k+(j:Int)) 0 (dz _ (by omega)) (dz _ (by omega)) W
    rw[z48] at this
    exact this) w (hid hw) (hid hp)
  (hid λi hi=>by
    obtain rfl:i=0:=by omega
    exact hx 0 (q,1) (by rw[zbz h0];rfl))
 have hsg:(sgnP 1 λk=>if(1:Nat)=0 then 0 else flq q k)=Geo.cmpR q 0:=by
  obtain⟨f1,f2⟩:=zpp q h
  have:=Geo.zaw q 0
  rcases(show q<0\/0<q by grind) with c|c
  ·have e:Geo.cmpR q 0= -1:=by grind
   rw[e]
   exact zpo λk hk=>f2 c k hk
  ·have e:Geo.cmpR q 0=1:=by grind
   rw[e]
   exact zpl (λk hk=>(f1 c).1 k hk) (f1 c).2
 rw[hsg] at hall
 have he:errP (Geo.cmpR q 0)=0:=by
  have:=Geo.zaw q 0
  unfold errP
  rw[if_neg (by grind)]
 rw[he] at hall
 exact hall
theorem zp6 (v:Value) (q:Rat) (h:sz q 60) (w:zA) (HW:Hid (∀W,qL w W->Wd W)) (HP:Hid (∀W,qL w W->Pw W)) (HS:Hid (∀W,qL w W->Spw W)) (hv:SdL v (rs q) w):
 qJ 44 #[v] w (.tuple #[.int .i64 (Geo.cmpR q 0),.int .i64 0]):=by
 obtain⟨p,cap,e, -⟩:=hv.slice
 subst e
 exact zff p _ cap _ 0 w (hid (zbh _ (rs q) (zc8 h) w (HW.out w (zM _ _)) (HP.out w (zM _ _)) hv)) (hid λW hW=>zrz _ q h W (HW.out W hW) (HS.out W hW) (hv.below hW))
theorem zjh:z5c ((2:Nat):Rat) ((1:Nat):Rat)=false/\z5c ((1:Nat):Rat) ((2:Nat):Rat)=false:=by
 constructor<;>decide+kernel
def ab2 (a b:Rat):List (Rat×Nat):=[(a,1),(b,2)]
theorem zsj {a b:Rat} (ha:a≠0) (hb:b≠0) (sa:sz a 60) (sb:sz b 60):SdOk (ab2 a b)/\MkT (ab2 a b)/\mkR (ab2 a b)=ab2 a b:=by
 have ho:SdOk (ab2 a b):=by
  refine⟨by simp[ab2],λt ht=>?_,λi t u h1 h2=>?_,λi k t u hik h1 h2=>?_⟩
  ·simp[ab2] at ht
   rcases ht with rfl|rfl
   ·exact⟨ha,sa,zyl.1⟩
   ·exact⟨hb,sb,zyl.2⟩
  ·match i with
   |0=>simp[ab2] at h1 h2;subst h1;subst h2;show 1<2;omega
   |i+1=>simp[ab2] at h2
  ·match i,k with
   |0,0=>exact absurd rfl hik
   |0,1=>simp[ab2] at h1 h2;subst h1;subst h2;exact zjh.1
   |1,0=>simp[ab2] at h1 h2;subst h1;subst h2;exact zjh.2
   |1,1=>exact absurd rfl hik
   |i+2,_=>simp[ab2] at h1
   |_,k+2=>simp[ab2] at h2
 have h1:sclL (ab2 a b) 1=ab2 a b:=by simp[sclL,ab2,Rat.mul_one]
 have hs:∀t∈ab2 a b,sz (t.1*1) 60:=λt ht=>by rw[Rat.mul_one];exact(ho.trm t ht).sc
 have:=zhr ho (c:=1) (by decide) hs
 rw[h1] at this
 exact⟨ho,this.1,this.2⟩
def b2 (b:Rat):List (Rat×Nat):=[(b,2)]
theorem zs7 {b:Rat} (hb:b≠0) (sb:sz b 60):SdOk (b2 b)/\MkT (b2 b)/\mkR (b2 b)=b2 b:=by
 have ho:SdOk (b2 b):=SdOk.one ⟨hb,sb,zyl.2⟩
 have h1:sclL (b2 b) 1=b2 b:=by simp[sclL,b2,Rat.mul_one]
 have hs:∀t∈b2 b,sz (t.1*1) 60:=λt ht=>by rw[Rat.mul_one];exact(ho.trm t ht).sc
 have:=zhr ho (c:=1) (by decide) hs
 rw[h1] at this
 exact⟨ho,this.1,this.2⟩
theorem zp8 (v:Value) (w:zA) (hw:Wd w) (hp:Spw w) (hv:SdL v (ab2 (-1) 1) w):
 qJ 93 #[v] w (.tuple #[.int .i64 1,.int .i64 0]):=by
 obtain⟨p,cap,rfl, -,hx⟩:=hv.slice
 have z48:itoa 0=[48]:=zb9
 have dz:∀z:Int, -1000000<z->z<1000000->digs z<=300:=λz h1 h2=>zO (zhd (k:=6) (by omega) (by show z.natAbs<1000000;omega)) (by omega)
 refine z3w p cap 2 (by omega) (by omega) (λi=>if i=0 then numS (-1) else numS 1) (λi=>if i=0 then zD 1 else zD 2) (λi=>if i=0 then itoa (-10000) else itoa 14142) (λi=>itoa (if i=0 then 0 else if i=1 then-10000 else 4142)) (λ_=>[]) 1 0 1 z48
  (hid λi hi W hW=>?_) (hid λi hi W hW=>?_) (hid λW hW=>?_) (hid (.inl ⟨by decide,rfl⟩)) w (hid hw) (hid hp) (hid λi hi=>?_)
 ·match i,hi with
  |0,_=>
   have:=zul (-1) 1 4 10000 100000000 (zm5 zb7.2.2.2.2.1) (by decide) (by omega) (by omega) (by decide+kernel) (zO (zil (k:=10) (by omega) (by omega)) (by omega)) ⟨by omega,by omega⟩ W hW
   unfold floT at this
   rw[if_pos (by decide),if_pos ⟨by omega,by decide+kernel⟩,show((10000/(-1:Rat).den+0:Nat):Int)=10000 by decide+kernel] at this
   exact this
  |1,_=>
   have:=zul 1 2 4 14142 200000000 (zm5 zb7.2.1) (by decide) (by omega) (by omega) (by decide+kernel) (zO (zil (k:=10) (by omega) (by omega)) (by omega)) ⟨by omega,by omega⟩ W hW
   unfold floT at this
   rw[if_neg (by decide),show((14142/(1:Rat).den:Nat):Int)=14142 by decide+kernel] at this
   exact this
 ·match i,hi with
  |0,_=>
   have:=zva 0 (-10000) (dz _ (by omega) (by omega)) (dz _ (by omega) (by omega)) (dz _ (by omega) (by omega)) W hW
   exact this
  |1,_=>
   have:=zva (-10000) 14142 (dz _ (by omega) (by omega)) (dz _ (by omega) (by omega)) (dz _ (by omega) (by omega)) W hW
   exact this
 ·have:=zsx 4142 0 (dz _ (by omega) (by omega)) (dz _ (by omega) (by omega)) W
  rw[z48] at this
  exact this
 ·match i,hi with
  |0,_=>exact hx 0 (-1,1) rfl
  |1,_=>exact hx 1 (1,2) rfl
theorem zml (p:Option Addr) (cap n:Nat) (q:Nat->Rat) (hn:n<=5000)
 (C:Hid (∀k,k<n->qK 27 #[St (numS (q k))] (.int .i64 0)))
 (w:zA) (HW:Hid (Wd w)) (HP:Hid (RowNums p n q w)):
 qJ 36 #[.slice p n cap] w (.int .i64 0):=by
 have D0:=hid (zM w.heap.size w)
 go_enter Tryz.func36,Tryz.ntmps36
 go_wp2_with fail
 go_loopw [8] (λi wr=>∃(k:Nat),k<=n/\i=.int .i64 (k:Int)/\Hid (qL w wr))
  (λi _=>n-(RowKit.intOf i).toNat)
 case atStart=>exact⟨0,Nat.zero_le _,rfl,D0⟩
 case round=>
  clear D0
  obtain⟨k,hk,rfl,hB⟩:=hrel
  by_cases hlt:k<n
  ·obtain⟨b,off,rfl,c0⟩:=(HP.out.keep (zac hB.out)) k hlt
   have HC:=hid (C.out k hlt)
   generalize numS (q k)=x at*
   go_wp2_with fail
   refine(HC.out wr (HW.out.below hB.out)).mono ?_
   rintro e w2 ⟨rfl,hb2⟩
   have hB2:=hid (hB.out.trans (hb2.mono hB.out.size))
   clear hb2 HC
   go_wp2_with fail
   go_roundw
   case rel=>exact⟨k+1,by omega,by go_num,hB2⟩
   case measure=>simp[RowKit.intOf];omega
  ·go_wp2_with fail
   go_ret
   exact⟨rfl,hB.out⟩
theorem zea (a:Rat) (k:Nat) (h0:0<k) (hk:k<=290) (h:sz a k) (w:zA) (hw:Wd w):
 qJ 38 #[St (numS a)] w (St (numS (-a))):=by
 have hc:=ztz 0 a 1 k (by omega) h0 (by omega) zb7.1 h w hw
 rw[show(0:Rat)-a= -a by grind,show St (numS 0)=.string ⟨#[48]⟩ by rw[nm0]] at hc
 generalize numS a=x at*
 generalize numS (-a)=y at*
 have HC:=hid hc;clear hc
 go_enter Tryz.func38,Tryz.ntmps38
 go_wp2_with fail
 refine HC.out.mono ?_
 rintro e w1 ⟨rfl,hb⟩
 have HB:=hid hb;clear hb
 go_wp2_with fail
 go_ret
 exact⟨rfl,HB.out⟩
theorem z5u (x:List UInt8) (R:Value->zA->Prop) (hR:Hid (∀v W,R v W->∃q n c,v=.slice q n c)) (w:zA)
 (M:Hid (∀W:zA,qL w W->W.heap[w.heap.size]? =some (.cells #[St x,.string ⟨#[49]⟩] 58 (0,0))->zC zF 80 #[.slice (some ⟨w.heap.size,0,none⟩) 1 1] W λe w'=>∃v,e=.returned (.tuple #[v,.int .i64 0])/\zB W.heap.size W w'/\R v w')):
 zC zF 35 #[St x] w λe w'=>∃v,e=.returned (.tuple #[v,.int .i64 0])/\zB w.heap.size w w'/\R v w':=by
 obtain⟨v1,hv⟩:∃v1,v1=w.alloc (.cells #[St x,.string ⟨#[49]⟩] 58):=⟨_,rfl⟩
 have a1:qL w v1:=by rw[hv];exact(zM _ w).alloc (zN _) _
 have A1:v1.heap[w.heap.size]? =some (.cells #[St x,.string ⟨#[49]⟩] 58 (0,0)):=by rw[hv];exact zG w _
 have HM:=hid (M.out v1 a1 A1)
 have HV1:=hid hv.symm
 have E1:=hid a1
 clear hv a1 A1 M
 go_enter Tryz.func35,Tryz.ntmps35
 go_wp2_with fail
 rw[HV1.out]
 clear HV1
 refine HM.out.mono ?_
 rintro e w1 ⟨v,rfl,hb1,hr⟩
 obtain⟨q,n,c,rfl⟩:=hR.out v w1 hr
 have FE:=hid (⟨E1.out.trans (hb1.mono E1.out.size),hr⟩:qL w w1/\R (.slice q n c) w1)
 clear hb1 hr HM
 go_wp2_with fail
 go_ret2
 exact⟨_,rfl,FE.out.1,FE.out.2⟩
theorem z7c (a:Rat) (h:sz a 60) (w:zA) (HW:Hid (∀W,qL w W->Wd W)) (HP:Hid (∀W,qL w W->Pw W)):
 zC zF 35 #[St (numS a)] w λe w'=>∃v,e=.returned (.tuple #[v,.int .i64 0])/\zB w.heap.size w w'/\SdL v (rs a) w':=by
 refine z5u (numS a) (λv W=>SdL v (rs a) W) (hid λv W h=>h.any) w (hid λW hW hx=>?_)
 have hl:=(Array.getElem?_eq_some_iff.1 hx).1
 refine zrs _ a h W (hid λV hV=>HW.out V (hW.trans (hV.mono hW.size))) (hid λV hV=>HP.out V (hW.trans (hV.mono hW.size))) (.inr ⟨w.heap.size,0,1,rfl,zN _,hl,λi t ht=>?_⟩)
 obtain rfl:i=0:=by have:=(List.getElem?_eq_some_iff.1 ht).1;simpa using this
 obtain rfl:t=(a,1):=by simpa using ht.symm
 exact⟨by rw[zJ hx];rfl,by rw[zJ hx];show _=some (St (zD 1));rw[show zD 1=[49] by rw[zae (by omega)];rfl];rfl⟩
theorem zcl (a b c:List UInt8) (p:Option Addr) (n k:Nat) (w:zA):
 qJ 42 #[.agg #[St a,St b,St c,.slice p n k]] w (.agg #[St a,St b,St c]):=by
 go_enter Tryz.func42,Tryz.ntmps42
 go_wp2_with fail
 exact bodyPost_ret (v:=.agg #[St a,St b,St c]) (by simp[results,Tryz.results42,go_sem]) rfl ⟨rfl,((zM _ w).alloc (zN _) _).alloc (by simp) _⟩
theorem zr2 (q:Rat):numS q≠[]:=by
 intro h
 have h1:(itoa q.num).length<=(numS q).length:=by unfold numS;simp
 have h2:itoa q.num≠[]:=by
  rcases zbg q.num with⟨_,e⟩|⟨_,e⟩
  ·rw[e];exact zci _
  ·rw[e];simp
 rw[h] at h1
 exact h2 (List.length_eq_zero_iff.1 (by simpa using h1))
theorem SdL.other {v:Value} {l:List (Rat×Nat)} {W W':zA} {k:Nat} (h:SdL v l W) (hk:∀b,b≠k->W'.heap[b]? =W.heap[b]?) (hs:W.heap.size<=W'.heap.size) (hz:∀i q,W.cell? ⟨k,i,none⟩≠some (St (numS q))):SdL v l W':=by
 rcases h with h|⟨b,off,cap,e,hc,hl,hx⟩
 ·exact .inl h
 ·refine .inr ⟨b,off,cap,e,hc,by omega,λi t ht=>?_⟩
  obtain⟨c0,c1⟩:=hx i t ht
  have hb:b≠k:=λe=>by subst e;exact hz _ _ c0
  have hh:∀o,W'.cell? ⟨b,o,none⟩=W.cell? ⟨b,o,none⟩:=λo=>by unfold World.cell?;rw[show((⟨b,o,none⟩:Addr).block)=b from rfl,hk b hb]
  exact⟨by rw[hh];exact c0,by rw[hh];exact c1⟩
def zc1:Array Value:= #[St [],St [],St [],.slice none 0 0]
theorem zk8 {W:zA} {k:Nat} (h:W.heap[k]? =some (.cells zc1 45 (0,0))):∀i q,W.cell? ⟨k,i,none⟩≠some (St (numS q)):=λi q e=>by
 rw[zJ h] at e
 have hne:=zr2 q
 have bad:∀x:List UInt8,St []=St x->x=[]:=λx hx=>by
  have:=congrArg (λv=>match v with| .string s=>s.data.toList|_=>[]) hx
  simpa using this.symm
 match i,e with
 |0,e=>exact hne (bad _ (Option.some.inj e))
 |1,e=>exact hne (bad _ (Option.some.inj e))
 |2,e=>exact hne (bad _ (Option.some.inj e))
 |3,e=>cases Option.some.inj e
 |i+4,e=>simp[zc1] at e
structure TrnS (w:zA) (o:Nat) (a b c:List UInt8) (d:Value) (a' b' c':List UInt8) (d':Value) (l:List (Rat×Nat)) (f:Nat->Bool) (W:zA):Prop where
 bel:qL w W
 h0:W.heap[w.heap.size]? =some (.cells #[St a,St b,St c,d] 45 (0,0))
 h2:f o=false->W.heap[w.heap.size+1]? =some (.cells zc1 45 (0,0))
 h3:f o=true->W.heap[w.heap.size+1]? =some (.cells #[St a',St b',St c',d'] 45 (0,0))
 sd:SdL d' l W
section
variable {w W W':zA} {o:Nat} {a b c a' b' c':List UInt8} {d d':Value} {l:List (Rat×Nat)} {f g:Nat->Bool}
theorem TrnS.congr (h:TrnS w o a b c d a' b' c' d' l f W) (e:g o=f o):TrnS w o a b c d a' b' c' d' l g W:=⟨h.bel,h.h0,by rw[e];exact h.h2,by rw[e];exact h.h3,h.sd⟩
theorem TrnS.next (h:TrnS w o a b c d a' b' c' d' l f W) (hb:qL W W'):TrnS w o a b c d a' b' c' d' l f W':=
 have hc:=zac hb
 ⟨h.bel.trans (hb.mono h.bel.size),hc _ _ _ _ h.h0,λe=>hc _ _ _ _ (h.h2 e),λe=>hc _ _ _ _ (h.h3 e),h.sd.below hb⟩
theorem TrnS.cells (h:TrnS w o a b c d a' b' c' d' l f W):W.cell? ⟨w.heap.size,0,none⟩=some (St a)/\W.cell? ⟨w.heap.size,1,none⟩=some (St b)/\W.cell? ⟨w.heap.size,2,none⟩=some (St c)/\W.cell? ⟨w.heap.size,3,none⟩=some d:=
 ⟨by rw[zJ h.h0];rfl,by rw[zJ h.h0];rfl,by rw[zJ h.h0];rfl,by rw[zJ h.h0];rfl⟩
theorem TrnS.soft (h:TrnS w o a b c d a' b' c' d' l f W) (e:f o=false):W.frozen? ⟨w.heap.size+1,0,none⟩=false/\W.frozen? ⟨w.heap.size+1,1,none⟩=false/\W.frozen? ⟨w.heap.size+1,2,none⟩=false/\W.frozen? ⟨w.heap.size+1,3,none⟩=false:=
 ⟨Go.Joins.unfrozen_of_block (h.h2 e) 0,Go.Joins.unfrozen_of_block (h.h2 e) 1,Go.Joins.unfrozen_of_block (h.h2 e) 2,Go.Joins.unfrozen_of_block (h.h2 e) 3⟩
theorem TrnS.old (h:TrnS w o a b c d a' b' c' d' l f W) (e:f o=false):W.cell? ⟨w.heap.size+1,0,none⟩=some (St [])/\W.cell? ⟨w.heap.size+1,1,none⟩=some (St [])/\W.cell? ⟨w.heap.size+1,2,none⟩=some (St [])/\W.cell? ⟨w.heap.size+1,3,none⟩=some (.slice none 0 0):=
 ⟨by rw[zJ (h.h2 e)];rfl,by rw[zJ (h.h2 e)];rfl,by rw[zJ (h.h2 e)];rfl,by rw[zJ (h.h2 e)];rfl⟩
theorem TrnS.new (h:TrnS w o a b c d a' b' c' d' l f W) (e:f o=true):W.cell? ⟨w.heap.size+1,0,none⟩=some (St a')/\W.cell? ⟨w.heap.size+1,1,none⟩=some (St b')/\W.cell? ⟨w.heap.size+1,2,none⟩=some (St c')/\W.cell? ⟨w.heap.size+1,3,none⟩=some d':=
 ⟨by rw[zJ (h.h3 e)];rfl,by rw[zJ (h.h3 e)];rfl,by rw[zJ (h.h3 e)];rfl,by rw[zJ (h.h3 e)];rfl⟩
theorem TrnS.put (h:TrnS w o a b c d a' b' c' d' l f W) (e:f o=false):TrnS w o a b c d a' b' c' d' l (λj=>if o=j then true else f j) ((((W.setCell ⟨w.heap.size+1,0,none⟩ (St a')).setCell ⟨w.heap.size+1,1,none⟩ (St b')).setCell ⟨w.heap.size+1,2,none⟩ (St c')).setCell ⟨w.heap.size+1,3,none⟩ d'):=by
 have ne:∀{k:Nat},k≠w.heap.size+1->((((W.setCell ⟨w.heap.size+1,0,none⟩ (St a')).setCell ⟨w.heap.size+1,1,none⟩ (St b')).setCell ⟨w.heap.size+1,2,none⟩ (St c')).setCell ⟨w.heap.size+1,3,none⟩ d').heap[k]? =W.heap[k]? :=λ{k} hk=>by
  rw[yE _ _ _ _ (by exact hk),yE _ _ _ _ (by exact hk),yE _ _ _ _ (by exact hk),yE _ _ _ _ (by exact hk)]
 have hz:=zk8 (h.h2 e)
 refine⟨(((h.bel.setCell (p:=⟨w.heap.size+1,0,none⟩) (by show _<=w.heap.size+1;omega) _).setCell (p:=⟨w.heap.size+1,1,none⟩) (by show _<=w.heap.size+1;omega) _).setCell (p:=⟨w.heap.size+1,2,none⟩) (by show _<=w.heap.size+1;omega) _).setCell (p:=⟨w.heap.size+1,3,none⟩) (by show _<=w.heap.size+1;omega) _,?_,λk=>(by simp at k),λ_=>?_,h.sd.other (λb hb=>ne hb) (by simp[World.setCell]) hz⟩
 ·rw[ne (by omega)];exact h.h0
 ·exact zK (i:=3) (zK (i:=2) (zK (i:=1) (zK (i:=0) (h.h2 e) (St a')) (St b')) (St c')) d'
end
theorem TrnS.start (w:zA) (o:Nat) (a b c:List UInt8) (d:Value) (a' b' c':List UInt8) (d':Value) (l:List (Rat×Nat)) (W:zA) (hW:zB ((w.alloc (.cells #[St a,St b,St c,d] 45)).alloc (.cells zc1 45)).heap.size ((w.alloc (.cells #[St a,St b,St c,d] 45)).alloc (.cells zc1 45)) W) (hs:SdL d' l W):TrnS w o a b c d a' b' c' d' l (λ_=>false) W:=by
 have hb:qL w ((w.alloc (.cells #[St a,St b,St c,d] 45)).alloc (.cells zc1 45)):=((zM _ w).alloc (zN _) _).alloc (by simp) _
 have hc:=zac hW
 refine⟨hb.trans (hW.mono hb.size),hc _ _ _ _ ?_,λ_=>hc _ _ _ _ ?_,λk=>(by cases k),hs⟩
 ·exact(Below.heap_alloc _ _ _ (by simp)).trans (zG w _)
 ·have:=zG (w.alloc (.cells #[St a,St b,St c,d] 45)) (.cells zc1 45)
  rw[zH] at this
  exact this
theorem zn4 (a b c:List UInt8) (p:Option Addr) (n k:Nat) (l:List (Rat×Nat)) (w:zA) (hs:SdL (.slice p n k) l w):
 zC zF 81 #[.agg #[St a,St b,St c,.slice p n k]] w λe w'=>e=.returned (.tuple #[.agg #[St a,St b,St c,.slice p n k],.int .i64 0])/\zB w.heap.size w w'/\SdL (.slice p n k) l w':=by
 go_enter Tryz.func81,Tryz.ntmps81
 go_wp2_with fail
 have hB:∀cs:Array Value,qL w ((w.alloc (.cells #[St a,St b,St c,.slice p n k] 45)).alloc (.cells cs 45)):=λcs=>((zM _ w).alloc (zN _) _).alloc (by simp) _
 exact bodyPost_ret (v:=.tuple #[.agg #[St a,St b,St c,.slice p n k],.int .i64 0]) (by simp[results,Tryz.results81,go_sem]) rfl ⟨rfl,hB _,hs.below (hB _)⟩
theorem zn5 (a b c a' b' c':List UInt8) (p:Option Addr) (n k:Nat) (l:List (Rat×Nat)) (w:zA) (HW:Hid (∀W,qL w W->Wd W))
 (SC:Hid (∀W:zA,qL w W->zC zF 88 #[.slice p n k,.string ⟨#[45,49]⟩] W λe w'=>∃v,e=.returned (.tuple #[v,.int .i64 0])/\zB W.heap.size W w'/\SdL v l w'))
 (O1:Hid (qK 38 #[St a] (St a')))
 (O2:Hid (qK 38 #[St b] (St b')))
 (O3:Hid (qK 38 #[St c] (St c'))):
 zC zF 82 #[.agg #[St a,St b,St c,.slice p n k]] w λe w'=>∃v,e=.returned (.tuple #[.agg #[St a',St b',St c',v],.int .i64 0])/\zB w.heap.size w w'/\SdL v l w':=by
 obtain⟨v1,hv⟩:∃v1,v1=(w.alloc (.cells #[St a,St b,St c,.slice p n k] 45)).alloc (.cells zc1 45):=⟨_,rfl⟩
 have hb:qL w v1:=by rw[hv];exact((zM _ w).alloc (zN _) _).alloc (by simp) _
 have A1:v1.heap[w.heap.size]? =some (.cells #[St a,St b,St c,.slice p n k] 45 (0,0)):=by rw[hv];exact(Below.heap_alloc _ _ _ (by simp)).trans (zG w _)
 have q3:v1.cell? ⟨w.heap.size,3,none⟩=some (.slice p n k):=by rw[zJ A1];rfl
 have HST:=hid (λ(d':Value) (W:zA) (hW:qL v1 W) (hs:SdL d' l W)=>TrnS.start w 11 a b c (.slice p n k) a' b' c' d' l W (by rw[<-hv];exact hW) hs)
 have HS:=hid (SC.out v1 hb)
 have HV:=hid hv.symm
 clear hv hb A1 SC
 go_enter Tryz.func82,Tryz.ntmps82
 go_wp2_with fail
 have h9:=HV.out
 rw[show(w.alloc (.cells #[.string ⟨a.toArray⟩,.string ⟨b.toArray⟩,.string ⟨c.toArray⟩,.slice p n k] 45)).alloc (.cells #[.string ⟨#[]⟩,.string ⟨#[]⟩,.string ⟨#[]⟩,.slice none 0 0] 45)=v1 from h9]
 clear h9 HV
 go_wp2_with fail
 refine HS.out.mono ?_
 rintro e w2 ⟨d',rfl,hb2,hs2⟩
 obtain⟨q',n',c2,rfl⟩:=hs2.any
 have HT:=hid (HST.out _ w2 hb2 hs2)
 clear hb2 hs2 HS HST q3
 go_wp2_with fail
 refine zbl (TrnS w 11 a b c (.slice p n k) a' b' c' (.slice q' n' c2) l) (by kernel_rfl) (by kernel_rfl) (HT.out.next (zM _ _).drew) ?_
 refine zab (v:=.pointer (some ⟨w.heap.size,0,none⟩)) (by rfl) (λf W' h=>h.congr rfl) (λf W' hf h=>by go_simp) ?_
 try simp only[zzQ]
 refine zab (v:=St a) (by rfl) (λf W' h=>h.congr rfl) (λf W' hf h=>by obtain⟨q0,q1,q2,q3⟩:=h.cells;go_simp) ?_
 try simp only[zzQ]
 refine zar (St a') (by rfl) (λf W' hf h C' hC'=>by
  go_simp
  refine(O1.out _ (HW.out _ h.bel)).mono ?_
  rintro e w' ⟨rfl,hb⟩
  exact⟨rfl,hC' _ ((h.next hb).congr rfl)⟩) ?_
 try simp only[zzQ]
 refine zab (v:=.pointer (some ⟨w.heap.size,1,none⟩)) (by rfl) (λf W' h=>h.congr rfl) (λf W' hf h=>by go_simp) ?_
 try simp only[zzQ]
 refine zab (v:=St b) (by rfl) (λf W' h=>h.congr rfl) (λf W' hf h=>by obtain⟨q0,q1,q2,q3⟩:=h.cells;go_simp) ?_
 try simp only[zzQ]
 refine zar (St b') (by rfl) (λf W' hf h C' hC'=>by
  go_simp
  refine(O2.out _ (HW.out _ h.bel)).mono ?_
  rintro e w' ⟨rfl,hb⟩
  exact⟨rfl,hC' _ ((h.next hb).congr rfl)⟩) ?_
 try simp only[zzQ]
 refine zab (v:=.pointer (some ⟨w.heap.size,2,none⟩)) (by rfl) (λf W' h=>h.congr rfl) (λf W' hf h=>by go_simp) ?_
 try simp only[zzQ]
 refine zab (v:=St c) (by rfl) (λf W' h=>h.congr rfl) (λf W' hf h=>by obtain⟨q0,q1,q2,q3⟩:=h.cells;go_simp) ?_
 try simp only[zzQ]
 refine zar (St c') (by rfl) (λf W' hf h C' hC'=>by
  go_simp
  refine(O3.out _ (HW.out _ h.bel)).mono ?_
  rintro e w' ⟨rfl,hb⟩
  exact⟨rfl,hC' _ ((h.next hb).congr rfl)⟩) ?_
 try simp only[zzQ]
 refine zab (v:=.slice q' n' c2) (by rfl) (λf W' h=>h.congr rfl) (λf W' hf h=>by go_simp) ?_
 try simp only[zzQ]
 refine zab (v:=.agg #[St a',St b',St c',.slice q' n' c2]) (by rfl) (λf W' h=>h.congr rfl) (λf W' hf h=>by go_simp) ?_
 try simp only[zzQ]
 refine zar undef (by rfl) (λf W' hf h C' hC'=>by
  have h11:=hf.self
  obtain⟨d0,d1,d2,d3⟩:=h.old h11
  obtain⟨f0,f1,f2,f3⟩:=h.soft h11
  go_simp
  exact⟨rfl,hC' _ (h.put h11)⟩) ?_
 try simp only[Act.put]
 refine zab (v:=.int .i64 0) (by rfl) (λf W' h=>h.congr rfl) (λf W' hf h=>by go_simp) ?_
 try simp only[zzQ]
 refine zck λf X hf h=>?_
 obtain⟨c0,c1,c2',c3⟩:=h.new (hf 11 (by decide))
 have hF:=hid (⟨h.bel,h.sd⟩:_/\_)
 clear h hf HT
 go_wp2_with fail
 exact bodyPost_ret (v:=.tuple #[.agg #[St a',St b',St c',.slice q' n' c2],.int .i64 0]) (by simp[results,Tryz.results82,go_sem,c0,c1,c2',c3]) rfl ⟨_,rfl,hF.out.1,hF.out.2⟩
theorem zgj (b:Bool) (w:zA):zC zF 37 #[.bool b] w λe w'=>e=.returned (.func (.func (if b=true then 81 else 82)) #[] #[])/\w'=w:=by
 cases b
 ·go_enter Tryz.func37,Tryz.ntmps37
  go_wp2_with fail
  go_ret
  exact⟨rfl,rfl⟩
 ·go_enter Tryz.func37,Tryz.ntmps37
  go_wp2_with fail
  go_ret
  exact⟨rfl,rfl⟩
structure OfS (w:zA) (a b c:List UInt8) (v:Value) (l:List (Rat×Nat)) (a2 b2 c2:List UInt8) (l2:List (Rat×Nat)) (d:Value) (f:Nat->Bool) (W:zA):Prop where
 bel:qL w W
 h0:W.heap[w.heap.size]? =some (.cells #[St a,St b,St c] 24 (0,0))
 h2:f 14=false->W.heap[w.heap.size+1]? =some (.cells zc1 45 (0,0))
 h3:f 14=true->W.heap[w.heap.size+1]? =some (.cells #[St a2,St b2,St c2,d] 45 (0,0))
 sv:SdL v l W
 sd:f 11=true->SdL d l2 W
section
variable {w W W':zA} {a b c a2 b2 c2:List UInt8} {v d:Value} {l l2:List (Rat×Nat)} {f g:Nat->Bool}
theorem OfS.congr (h:OfS w a b c v l a2 b2 c2 l2 d f W) (e1:g 11=f 11) (e:g 14=f 14):OfS w a b c v l a2 b2 c2 l2 d g W:=⟨h.bel,h.h0,by rw[e];exact h.h2,by rw[e];exact h.h3,h.sv,by rw[e1];exact h.sd⟩
theorem OfS.next (h:OfS w a b c v l a2 b2 c2 l2 d f W) (hb:qL W W'):OfS w a b c v l a2 b2 c2 l2 d f W':=
 have hc:=zac hb
 ⟨h.bel.trans (hb.mono h.bel.size),hc _ _ _ _ h.h0,λe=>hc _ _ _ _ (h.h2 e),λe=>hc _ _ _ _ (h.h3 e),h.sv.below hb,λe=>(h.sd e).below hb⟩
theorem OfS.cells (h:OfS w a b c v l a2 b2 c2 l2 d f W):W.cell? ⟨w.heap.size,0,none⟩=some (St a)/\W.cell? ⟨w.heap.size,1,none⟩=some (St b)/\W.cell? ⟨w.heap.size,2,none⟩=some (St c):=
 ⟨by rw[zJ h.h0];rfl,by rw[zJ h.h0];rfl,by rw[zJ h.h0];rfl⟩
theorem OfS.soft (h:OfS w a b c v l a2 b2 c2 l2 d f W) (e:f 14=false):W.frozen? ⟨w.heap.size+1,0,none⟩=false/\W.frozen? ⟨w.heap.size+1,1,none⟩=false/\W.frozen? ⟨w.heap.size+1,2,none⟩=false/\W.frozen? ⟨w.heap.size+1,3,none⟩=false:=
 ⟨Go.Joins.unfrozen_of_block (h.h2 e) 0,Go.Joins.unfrozen_of_block (h.h2 e) 1,Go.Joins.unfrozen_of_block (h.h2 e) 2,Go.Joins.unfrozen_of_block (h.h2 e) 3⟩
theorem OfS.old (h:OfS w a b c v l a2 b2 c2 l2 d f W) (e:f 14=false):W.cell? ⟨w.heap.size+1,0,none⟩=some (St [])/\W.cell? ⟨w.heap.size+1,1,none⟩=some (St [])/\W.cell? ⟨w.heap.size+1,2,none⟩=some (St [])/\W.cell? ⟨w.heap.size+1,3,none⟩=some (.slice none 0 0):=
 ⟨by rw[zJ (h.h2 e)];rfl,by rw[zJ (h.h2 e)];rfl,by rw[zJ (h.h2 e)];rfl,by rw[zJ (h.h2 e)];rfl⟩
theorem OfS.new (h:OfS w a b c v l a2 b2 c2 l2 d f W) (e:f 14=true):W.cell? ⟨w.heap.size+1,0,none⟩=some (St a2)/\W.cell? ⟨w.heap.size+1,1,none⟩=some (St b2)/\W.cell? ⟨w.heap.size+1,2,none⟩=some (St c2)/\W.cell? ⟨w.heap.size+1,3,none⟩=some d:=
 ⟨by rw[zJ (h.h3 e)];rfl,by rw[zJ (h.h3 e)];rfl,by rw[zJ (h.h3 e)];rfl,by rw[zJ (h.h3 e)];rfl⟩
theorem OfS.res (h:OfS w a b c v l a2 b2 c2 l2 d f W) (hb:qL W W') {u:Value} (hu:SdL u l2 W') (e14:f 14=false) (g14:g 14=f 14):OfS w a b c v l a2 b2 c2 l2 u g W':=
 have hn:=h.next hb
 ⟨hn.bel,hn.h0,by rw[g14];exact hn.h2,λk=>(by rw[g14,e14] at k;cases k),hn.sv,λ_=>hu⟩
theorem OfS.put (h:OfS w a b c v l a2 b2 c2 l2 d f W) (e:f 14=false):OfS w a b c v l a2 b2 c2 l2 d (λj=>if 14=j then true else f j) ((((W.setCell ⟨w.heap.size+1,0,none⟩ (St a2)).setCell ⟨w.heap.size+1,1,none⟩ (St b2)).setCell ⟨w.heap.size+1,2,none⟩ (St c2)).setCell ⟨w.heap.size+1,3,none⟩ d):=by
 have ne:∀{k:Nat},k≠w.heap.size+1->((((W.setCell ⟨w.heap.size+1,0,none⟩ (St a2)).setCell ⟨w.heap.size+1,1,none⟩ (St b2)).setCell ⟨w.heap.size+1,2,none⟩ (St c2)).setCell ⟨w.heap.size+1,3,none⟩ d).heap[k]? =W.heap[k]? :=λ{k} hk=>by
  rw[yE _ _ _ _ (by exact hk),yE _ _ _ _ (by exact hk),yE _ _ _ _ (by exact hk),yE _ _ _ _ (by exact hk)]
 have hz:=zk8 (h.h2 e)
 refine⟨(((h.bel.setCell (p:=⟨w.heap.size+1,0,none⟩) (by show _<=w.heap.size+1;omega) _).setCell (p:=⟨w.heap.size+1,1,none⟩) (by show _<=w.heap.size+1;omega) _).setCell (p:=⟨w.heap.size+1,2,none⟩) (by show _<=w.heap.size+1;omega) _).setCell (p:=⟨w.heap.size+1,3,none⟩) (by show _<=w.heap.size+1;omega) _,?_,λk=>(by simp at k),λ_=>?_,h.sv.other (λb hb=>ne hb) (by simp[World.setCell]) hz,λk=>(h.sd (by simpa using k)).other (λb hb=>ne hb) (by simp[World.setCell]) hz⟩
 ·rw[ne (by omega)];exact h.h0
 ·exact zK (i:=3) (zK (i:=2) (zK (i:=1) (zK (i:=0) (h.h2 e) (St a2)) (St b2)) (St c2)) d
end
theorem zlt (a b c a1 b1 a2 b2 c2:List UInt8) (ab:Bool) (g:FuncId) (l l2:List (Rat×Nat)) (w:zA) (HW:Hid (∀W,qL w W->Wd W))
 (FI:Hid (∀W:zA,qL w W->∀A,W.heap[A]? =some (.cells #[St a,St b,St c] 22 (0,0))->qJ 36 #[.slice (some ⟨A,0,none⟩) 3 3] W (.int .i64 0)))
 (NU:Hid (∀W:zA,qL w W->zC zF 35 #[St c] W λe w'=>∃v,e=.returned (.tuple #[v,.int .i64 0])/\zB W.heap.size W w'/\SdL v l w'))
 (CH:Hid (∀W:zA,zC zF 37 #[.bool (!ab)] W λe w'=>e=.returned (.func (.func g) #[] #[])/\w'=W))
 (O1:Hid (qK 38 #[St a] (St a1)))
 (O2:Hid (qK 38 #[St b] (St b1)))
 (GO:Hid (∀(W:zA) (p:Option Addr) (n k:Nat),qL w W->SdL (.slice p n k) l W->zC zF g #[.agg #[St a1,St b1,.string ⟨#[49]⟩,.slice p n k]] W λe w'=>∃v,e=.returned (.tuple #[.agg #[St a2,St b2,St c2,v],.int .i64 0])/\zB W.heap.size W w'/\SdL v l2 w')) (eg:∀args w,(callFunc g args).run zF w=.ok (.enter g args) w):
 zC zF 11 #[.agg #[St a,St b,St c],.bool ab] w λe w'=>∃v,e=.returned (.tuple #[.agg #[St a2,St b2,St c2,v],.int .i64 0])/\zB w.heap.size w w'/\SdL v l2 w':=by
 obtain⟨v1,hv⟩:∃v1,v1=(w.alloc (.cells #[St a,St b,St c] 24)).alloc (.cells zc1 45):=⟨_,rfl⟩
 have b1':qL w v1:=by rw[hv];exact((zM _ w).alloc (zN _) _).alloc (by simp) _
 have A1:v1.heap[w.heap.size]? =some (.cells #[St a,St b,St c] 24 (0,0)):=by rw[hv];exact(Below.heap_alloc _ _ _ (by simp)).trans (zG w _)
 have A2:v1.heap[w.heap.size+1]? =some (.cells zc1 45 (0,0)):=by
  rw[hv]
  have:=zG (w.alloc (.cells #[St a,St b,St c] 24)) (.cells zc1 45)
  rw[zH] at this
  exact this
 have q0:v1.cell? ⟨w.heap.size,0,none⟩=some (St a):=by rw[zJ A1];rfl
 have q1:v1.cell? ⟨w.heap.size,1,none⟩=some (St b):=by rw[zJ A1];rfl
 have q2:v1.cell? ⟨w.heap.size,2,none⟩=some (St c):=by rw[zJ A1];rfl
 obtain⟨v2,hv2⟩:∃v2,v2=v1.alloc (.cells #[St a,St b,St c] 22):=⟨_,rfl⟩
 have b2':qL v1 v2:=by rw[hv2];exact(zM _ v1).alloc (zN _) _
 have A3:v2.heap[v1.heap.size]? =some (.cells #[St a,St b,St c] 22 (0,0)):=by rw[hv2];exact zG v1 _
 have hb:=b1'.trans (b2'.mono b1'.size)
 have hsz:v1.heap.size=w.heap.size+1+1:=by rw[hv];simp
 rw[hsz] at A3
 have HF:=hid (FI.out v2 hb _ A3)
 have B2:=hid hb
 have P1:=hid (zac b2' _ _ _ _ A1);have P2:=hid (zac b2' _ _ _ _ A2)
 have HV:=hid hv.symm;have HV2:=hid hv2.symm
 have EG:=hid eg
 clear hv hv2 b1' b2' A1 A2 A3 hb FI eg hsz
 go_enter Tryz.func11,Tryz.ntmps11
 go_wp2_with fail
 have h9:=HV.out
 rw[show(w.alloc (.cells #[.string ⟨a.toArray⟩,.string ⟨b.toArray⟩,.string ⟨c.toArray⟩] 24)).alloc (.cells #[.string ⟨#[]⟩,.string ⟨#[]⟩,.string ⟨#[]⟩,.slice none 0 0] 45)=v1 from h9]
 clear h9 HV
 go_wp2_with fail
 have h9:=HV2.out
 rw[show v1.alloc (.cells #[.string ⟨a.toArray⟩,.string ⟨b.toArray⟩,.string ⟨c.toArray⟩] 22)=v2 from h9]
 clear h9 HV2 q0 q1 q2
 refine HF.out.mono ?_
 rintro e w1 ⟨rfl,hb1⟩
 have hb:=B2.out.trans (hb1.mono B2.out.size)
 have B3:=hid hb
 have P3:=hid (zac hb1 _ _ _ _ P1.out);have P4:=hid (zac hb1 _ _ _ _ P2.out)
 have HN:=hid (NU.out w1 hb)
 clear hb hb1 B2 P1 P2 HF NU
 have q2:w1.cell? ⟨w.heap.size,2,none⟩=some (St c):=by rw[zJ P3.out];rfl
 go_wp2_with fail
 refine HN.out.mono ?_
 rintro e w2 ⟨v,rfl,hb2,hs⟩
 obtain⟨p,n,k,rfl⟩:=hs.any
 have HS:=hid (⟨B3.out.trans (hb2.mono B3.out.size),zac hb2 _ _ _ _ P3.out,λ_=>zac hb2 _ _ _ _ P4.out,λk=>(by cases k),hs,λk=>(by cases k)⟩:OfS w a b c (.slice p n k) l a2 b2 c2 l2 (.slice none 0 0) (λ_=>false) w2)
 clear hb2 hs q2 HN B3 P3 P4
 go_wp2_with fail
 refine zc4 (λ(g3:Option Addr×Nat×Nat) i=>([.bool ab,.bool (!ab),.func (.func g) #[] #[],.pointer (some ⟨w.heap.size,0,none⟩),St a,St a1,.pointer (some ⟨w.heap.size,1,none⟩),St b,St b1,.slice p n k,.agg #[St a1,St b1,.string ⟨#[49]⟩,.slice p n k],.tuple #[.agg #[St a2,St b2,St c2,.slice g3.1 g3.2.1 g3.2.2],.int .i64 0],.agg #[St a2,St b2,St c2,.slice g3.1 g3.2.1 g3.2.2],.int .i64 0,undef,.int .i64 0]:List Value).getD i undef) (λg3=>OfS w a b c (.slice p n k) l a2 b2 c2 l2 (.slice g3.1 g3.2.1 g3.2.2)) (by kernel_rfl) (by kernel_rfl) (none,0,0) (HS.out.next (zM _ _).drew) λg3=>?_
 refine qB (.bool ab) (λf W' h=>h.congr rfl rfl) ?_
 simp only[zzQ]
 refine qB (.bool (!ab)) (λf W' h=>h.congr rfl rfl) ?_
 simp only[zzQ]
 refine zbv (.func (.func g) #[] #[]) (by rfl) (by rfl) (λf W' hf h C' hC'=>by
  go_simp
  refine(CH.out _).mono ?_
  rintro e w' ⟨rfl,rfl⟩
  exact⟨_,rfl,hC' _ (h.congr rfl rfl)⟩) ?_
 try simp only[zzQ]
 refine qB (.pointer (some ⟨w.heap.size,0,none⟩)) (λf W' h=>h.congr rfl rfl) ?_
 simp only[zzQ]
 refine qB (St a) (λf W' h=>h.congr rfl rfl) ?_ (hy:=λf W' hf h=>by obtain⟨q0,q1,q2⟩:=h.cells;go_simp)
 simp only[zzQ]
 refine zbv (St a1) (by rfl) (by rfl) (λf W' hf h C' hC'=>by
  go_simp
  refine(O1.out _ (HW.out _ h.bel)).mono ?_
  rintro e w' ⟨rfl,hb⟩
  exact⟨_,rfl,hC' _ ((h.next hb).congr rfl rfl)⟩) ?_
 try simp only[zzQ]
 refine qB (.pointer (some ⟨w.heap.size,1,none⟩)) (λf W' h=>h.congr rfl rfl) ?_
 simp only[zzQ]
 refine qB (St b) (λf W' h=>h.congr rfl rfl) ?_ (hy:=λf W' hf h=>by obtain⟨q0,q1,q2⟩:=h.cells;go_simp)
 simp only[zzQ]
 refine zbv (St b1) (by rfl) (by rfl) (λf W' hf h C' hC'=>by
  go_simp
  refine(O2.out _ (HW.out _ h.bel)).mono ?_
  rintro e w' ⟨rfl,hb⟩
  exact⟨_,rfl,hC' _ ((h.next hb).congr rfl rfl)⟩) ?_
 try simp only[zzQ]
 refine qB (.slice p n k) (λf W' h=>h.congr rfl rfl) ?_
 simp only[zzQ]
 refine qB (.agg #[St a1,St b1,.string ⟨#[49]⟩,.slice p n k]) (λf W' h=>h.congr rfl rfl) ?_
 simp only[zzQ]
 refine zdc (.tuple #[.agg #[St a2,St b2,St c2,.slice g3.1 g3.2.1 g3.2.2],.int .i64 0]) (by rfl) (by rfl) (λf W' hf h C' hC'=>by
  have h11:=hf.self
  have h12:=hf.no (j:=12) hf.self (by kernel_rfl)
  have h14:=hf.no (j:=14) h12 (by kernel_rfl)
  have hg:=GO.out W' p n k h.bel h.sv
  have heg:=EG.out
  go_simp
  refine hg.mono ?_
  rintro e w' ⟨u0,rfl,hb,hu⟩
  obtain⟨u1,u2,u3,rfl⟩:=hu.any
  have hj:∀j,f j=true->(([.bool ab,.bool (!ab),.func (.func g) #[] #[],.pointer (some ⟨w.heap.size,0,none⟩),St a,St a1,.pointer (some ⟨w.heap.size,1,none⟩),St b,St b1,.slice p n k,.agg #[St a1,St b1,.string ⟨#[49]⟩,.slice p n k],.tuple #[.agg #[St a2,St b2,St c2,.slice u1 u2 u3],.int .i64 0],.agg #[St a2,St b2,St c2,.slice u1 u2 u3],.int .i64 0,undef,.int .i64 0]:List Value).getD j undef)=(([.bool ab,.bool (!ab),.func (.func g) #[] #[],.pointer (some ⟨w.heap.size,0,none⟩),St a,St a1,.pointer (some ⟨w.heap.size,1,none⟩),St b,St b1,.slice p n k,.agg #[St a1,St b1,.string ⟨#[49]⟩,.slice p n k],.tuple #[.agg #[St a2,St b2,St c2,.slice g3.1 g3.2.1 g3.2.2],.int .i64 0],.agg #[St a2,St b2,St c2,.slice g3.1 g3.2.1 g3.2.2],.int .i64 0,undef,.int .i64 0]:List Value).getD j undef):=by
   intro j hj
   match j,hj with
   |0,_|1,_|2,_|3,_|4,_|5,_|6,_|7,_|8,_|9,_|10,_|13,_|14,_|15,_=>rfl
   |11,hj=>rw[h11] at hj;cases hj
   |12,hj=>rw[h12] at hj;cases hj
   |_+16,_=>rfl
  exact⟨_,rfl,hC' (u1,u2,u3) _ hj (h.res hb hu h14 rfl)⟩) ?_
 try simp only[zzQ]
 refine qB (.agg #[St a2,St b2,St c2,.slice g3.1 g3.2.1 g3.2.2]) (λf W' h=>h.congr rfl rfl) ?_
 simp only[zzQ]
 refine qB (.int .i64 0) (λf W' h=>h.congr rfl rfl) ?_
 simp only[zzQ]
 refine zbv undef (by rfl) (by rfl) (λf W' hf h C' hC'=>by
  have h14:=hf.self
  have h11:=hf.done 11 (by kernel_rfl)
  obtain⟨d0,d1,d2,d3⟩:=h.old h14
  obtain⟨f0,f1,f2,f3⟩:=h.soft h14
  have:=hC' _ (h.put h14)
  go_simp
  exact this) ?_
 try simp only[Act.put]
 refine qB (.int .i64 0) (λf W' h=>h.congr rfl rfl) ?_
 simp only[zzQ]
 refine ze1 λf X hf h=>?_
 obtain⟨c0,c1,c2',c3⟩:=h.new (hf 14 (by decide))
 have hF:=hid (⟨h.bel,h.sd (hf 11 (by decide))⟩:_/\_)
 clear h hf HS
 go_wp2_with fail
 exact bodyPost_ret (v:=.tuple #[.agg #[St a2,St b2,St c2,.slice g3.1 g3.2.1 g3.2.2],.int .i64 0]) (by simp[results,Tryz.results11,go_sem,c0,c1,c2',c3]) rfl ⟨_,rfl,hF.out.1,hF.out.2⟩
theorem zbc {W:zA} {k:Nat} {p0 p1 p2:Value} {t:TypeId} (h:W.heap[k]? =some (.cells #[p0,p1,p2] t (0,0))) (h0:∃q n c,p0=.slice q n c) (h1:∃q n c,p1=.slice q n c) (h2:∃q n c,p2=.slice q n c):∀i q,W.cell? ⟨k,i,none⟩≠some (St (numS q)):=λi q e=>by
 rw[zJ h] at e
 obtain⟨_,_,_,rfl⟩:=h0;obtain⟨_,_,_,rfl⟩:=h1;obtain⟨_,_,_,rfl⟩:=h2
 match i,e with
 |0,e=>cases Option.some.inj e
 |1,e=>cases Option.some.inj e
 |2,e=>cases Option.some.inj e
 |i+3,e=>simp at e
structure ScS (w:zA) (s0 s1 s2:Value) (x0 x1 x2:List UInt8) (p0 p1 p2:Value) (W:zA):Prop where
 bel:qL w W
 h0:W.heap[w.heap.size]? =some (.cells #[s0,s1,s2] 86 (0,0))
 h2:W.heap[w.heap.size+1+1]? =some (.cells #[p0,p1,p2] 86 (0,0))
 h3:W.heap[w.heap.size+1+1+1]? =some (.cells #[St x0,St x1,St x2] 22 (0,0))
section
variable {w W W':zA} {s0 s1 s2 p0 p1 p2:Value} {x0 x1 x2:List UInt8}
theorem ScS.next (h:ScS w s0 s1 s2 x0 x1 x2 p0 p1 p2 W) (hb:qL W W'):ScS w s0 s1 s2 x0 x1 x2 p0 p1 p2 W':=
 have hc:=zac hb
 ⟨h.bel.trans (hb.mono h.bel.size),hc _ _ _ _ h.h0,hc _ _ _ _ h.h2,hc _ _ _ _ h.h3⟩
theorem ScS.cells (h:ScS w s0 s1 s2 x0 x1 x2 p0 p1 p2 W):W.cell? ⟨w.heap.size,0,none⟩=some s0/\W.cell? ⟨w.heap.size,1,none⟩=some s1/\W.cell? ⟨w.heap.size,2,none⟩=some s2/\
 W.cell? ⟨w.heap.size+1+1,0,none⟩=some p0/\W.cell? ⟨w.heap.size+1+1,1,none⟩=some p1/\W.cell? ⟨w.heap.size+1+1,2,none⟩=some p2/\
 W.cell? ⟨w.heap.size+1+1+1,0,none⟩=some (St x0)/\W.cell? ⟨w.heap.size+1+1+1,1,none⟩=some (St x1)/\W.cell? ⟨w.heap.size+1+1+1,2,none⟩=some (St x2):=
 ⟨by rw[zJ h.h0];rfl,by rw[zJ h.h0];rfl,by rw[zJ h.h0];rfl,by rw[zJ h.h2];rfl,by rw[zJ h.h2];rfl,by rw[zJ h.h2];rfl,by rw[zJ h.h3];rfl,by rw[zJ h.h3];rfl,by rw[zJ h.h3];rfl⟩
theorem ScS.soft (h:ScS w s0 s1 s2 x0 x1 x2 p0 p1 p2 W) (i:Nat):W.frozen? ⟨w.heap.size+1+1,i,none⟩=false:=Go.Joins.unfrozen_of_block h.h2 i
theorem ScS.ne (h:ScS w s0 s1 s2 x0 x1 x2 p0 p1 p2 W) (i:Nat) (u:Value):qL w (W.setCell ⟨w.heap.size+1+1,i,none⟩ u)/\(∀b,b≠w.heap.size+1+1->(W.setCell ⟨w.heap.size+1+1,i,none⟩ u).heap[b]? =W.heap[b]?)/\W.heap.size<=(W.setCell ⟨w.heap.size+1+1,i,none⟩ u).heap.size:=
 ⟨h.bel.setCell (p:=⟨w.heap.size+1+1,i,none⟩) (by show _<=w.heap.size+1+1;omega) _,λb hb=>yE _ _ _ _ (by exact hb),by simp[World.setCell]⟩
theorem ScS.put0 (h:ScS w s0 s1 s2 x0 x1 x2 p0 p1 p2 W) (u:Value):ScS w s0 s1 s2 x0 x1 x2 u p1 p2 (W.setCell ⟨w.heap.size+1+1,0,none⟩ u):=by
 obtain⟨h1,h2,_⟩:=h.ne 0 u
 exact⟨h1,(h2 _ (by omega)).trans h.h0,zK (i:=0) h.h2 u,(h2 _ (by omega)).trans h.h3⟩
theorem ScS.put1 (h:ScS w s0 s1 s2 x0 x1 x2 p0 p1 p2 W) (u:Value):ScS w s0 s1 s2 x0 x1 x2 p0 u p2 (W.setCell ⟨w.heap.size+1+1,1,none⟩ u):=by
 obtain⟨h1,h2,_⟩:=h.ne 1 u
 exact⟨h1,(h2 _ (by omega)).trans h.h0,zK (i:=1) h.h2 u,(h2 _ (by omega)).trans h.h3⟩
theorem ScS.put2 (h:ScS w s0 s1 s2 x0 x1 x2 p0 p1 p2 W) (u:Value):ScS w s0 s1 s2 x0 x1 x2 p0 p1 u (W.setCell ⟨w.heap.size+1+1,2,none⟩ u):=by
 obtain⟨h1,h2,_⟩:=h.ne 2 u
 exact⟨h1,(h2 _ (by omega)).trans h.h0,zK (i:=2) h.h2 u,(h2 _ (by omega)).trans h.h3⟩
end
theorem zcq (q0 q1 q2:Option Addr) (n0 n1 n2 k0 k1 k2:Nat) (x0 x1 x2:List UInt8) (L0 L1 L2 M1 M2:List (Rat×Nat)) (w:zA)
 (S0:Hid (∀W:zA,qL w W->zC zF 88 #[.slice q0 n0 k0,St x0] W λe w'=>∃v,e=.returned (.tuple #[v,.int .i64 0])/\zB W.heap.size W w'/\SdL v L0 w'))
 (S1:Hid (∀W:zA,qL w W->zC zF 88 #[.slice q1 n1 k1,St x1] W λe w'=>∃v,e=.returned (.tuple #[v,.int .i64 0])/\zB W.heap.size W w'/\SdL v L1 w'))
 (S2:Hid (∀W:zA,qL w W->zC zF 88 #[.slice q2 n2 k2,St x2] W λe w'=>∃v,e=.returned (.tuple #[v,.int .i64 0])/\zB W.heap.size W w'/\SdL v L2 w'))
 (A1:Hid (∀(W:zA) (u v:Value),qL w W->SdL u L0 W->SdL v L1 W->zC zF 89 #[u,v] W λe w'=>∃r,e=.returned (.tuple #[r,.int .i64 0])/\zB W.heap.size W w'/\SdL r M1 w'))
 (A2:Hid (∀(W:zA) (u v:Value),qL w W->SdL u M1 W->SdL v L2 W->zC zF 89 #[u,v] W λe w'=>∃r,e=.returned (.tuple #[r,.int .i64 0])/\zB W.heap.size W w'/\SdL r M2 w')):
 zC zF 41 #[.agg #[.slice q0 n0 k0,.slice q1 n1 k1,.slice q2 n2 k2],.agg #[St x0,St x1,St x2]] w λe w'=>∃r,e=.returned (.tuple #[r,.int .i64 0])/\zB w.heap.size w w'/\SdL r M2 w':=by
 obtain⟨v1,hv⟩:∃v1,v1=((w.alloc (.cells #[.slice q0 n0 k0,.slice q1 n1 k1,.slice q2 n2 k2] 86)).alloc (.cells #[St x0,St x1,St x2] 43)).alloc (.cells #[.slice none 0 0,.slice none 0 0,.slice none 0 0] 86):=⟨_,rfl⟩
 have hb1:qL w v1:=by rw[hv];exact(((zM _ w).alloc (zN _) _).alloc (by simp) _).alloc (by simp;omega) _
 have e1:v1.heap[w.heap.size]? =some (.cells #[.slice q0 n0 k0,.slice q1 n1 k1,.slice q2 n2 k2] 86 (0,0)):=by
  rw[hv];exact(Below.heap_alloc _ _ _ (by simp;omega)).trans ((Below.heap_alloc _ _ _ (by simp)).trans (zG w _))
 have e2:v1.heap[w.heap.size+1]? =some (.cells #[St x0,St x1,St x2] 43 (0,0)):=by
  rw[hv]
  have:=zG (w.alloc (.cells #[.slice q0 n0 k0,.slice q1 n1 k1,.slice q2 n2 k2] 86)) (.cells #[St x0,St x1,St x2] 43)
  rw[zH] at this
  exact(Below.heap_alloc _ _ _ (by simp)).trans this
 have e3:v1.heap[w.heap.size+1+1]? =some (.cells #[.slice none 0 0,.slice none 0 0,.slice none 0 0] 86 (0,0)):=by
  rw[hv]
  have:=zG ((w.alloc (.cells #[.slice q0 n0 k0,.slice q1 n1 k1,.slice q2 n2 k2] 86)).alloc (.cells #[St x0,St x1,St x2] 43)) (.cells #[.slice none 0 0,.slice none 0 0,.slice none 0 0] 86)
  rw[zH,zH] at this
  exact this
 have hsz:v1.heap.size=w.heap.size+1+1+1:=by rw[hv];simp
 have y0:v1.cell? ⟨w.heap.size+1,0,none⟩=some (St x0):=by rw[zJ e2];rfl
 have y1:v1.cell? ⟨w.heap.size+1,1,none⟩=some (St x1):=by rw[zJ e2];rfl
 have y2:v1.cell? ⟨w.heap.size+1,2,none⟩=some (St x2):=by rw[zJ e2];rfl
 obtain⟨v2,hv2⟩:∃v2,v2=v1.alloc (.cells #[St x0,St x1,St x2] 22):=⟨_,rfl⟩
 have b2:qL v1 v2:=by rw[hv2];exact(zM _ v1).alloc (zN _) _
 have HS0:Hid (ScS w (.slice q0 n0 k0) (.slice q1 n1 k1) (.slice q2 n2 k2) x0 x1 x2 (.slice none 0 0) (.slice none 0 0) (.slice none 0 0) v2):=hid
  ⟨hb1.trans (b2.mono hb1.size),zac b2 _ _ _ _ e1,zac b2 _ _ _ _ e3,by rw[hv2,<-hsz];exact zG v1 _⟩
 have HV:=hid hv.symm;have HV2:=hid hv2.symm;have HSZ:=hid hsz
 clear hv hv2 hb1 b2 e1 e2 e3 hsz
 go_enter Tryz.func41,Tryz.ntmps41
 go_wp2_with fail
 have h9:=HV.out
 rw[show((w.alloc (.cells #[.slice q0 n0 k0,.slice q1 n1 k1,.slice q2 n2 k2] 86)).alloc (.cells #[.string ⟨x0.toArray⟩,.string ⟨x1.toArray⟩,.string ⟨x2.toArray⟩] 43)).alloc (.cells #[.slice none 0 0,.slice none 0 0,.slice none 0 0] 86)=v1 from h9]
 clear h9 HV
 go_wp2_with fail
 have h9:=HV2.out
 rw[show v1.alloc (.cells #[.string ⟨x0.toArray⟩,.string ⟨x1.toArray⟩,.string ⟨x2.toArray⟩] 22)=v2 from h9]
 try rw[HSZ.out]
 clear h9 HV2 HSZ y0 y1 y2
 refine wp_loop_rounds 4 ?_
 rw[rounds_succ]
 obtain⟨c0,c1,c2,d0,d1,d2,z0,z1,z2⟩:=HS0.out.cells
 have fz:=HS0.out.soft 0
 have HC:=hid (S0.out v2 HS0.out.bel)
 go_wp2_with fail
 clear c0 c1 c2 d0 d1 d2 z0 z1 z2 fz
 refine HC.out.mono ?_
 rintro e r0 ⟨u,rfl,hb,hu⟩
 obtain⟨a0,m0,j0,rfl⟩:=hu.any
 have HR0:=hid (HS0.out.next hb)
 have HU0:=hid hu
 clear hb hu HC HS0
 obtain⟨c0,c1,c2,d0,d1,d2,z0,z1,z2⟩:=HR0.out.cells
 have fz:=HR0.out.soft 0
 obtain⟨t0,ht0⟩:∃t0,t0=r0.setCell ⟨w.heap.size+1+1,0,none⟩ (.slice a0 m0 j0):=⟨_,rfl⟩
 have hp:=HR0.out.put0 (.slice a0 m0 j0)
 obtain⟨-,hne,hsz⟩:=HR0.out.ne 0 (.slice a0 m0 j0)
 have hno:=zbc HR0.out.h2 ⟨_,_,_,rfl⟩ ⟨_,_,_,rfl⟩ ⟨_,_,_,rfl⟩
 rw[<-ht0] at hp hne hsz
 have HP0:=hid hp
 have HU0:=hid (HU0.out.other hne hsz hno)
 have HT:=hid ht0.symm
 clear hp hne hsz hno ht0
 go_wp2_with fail
 try rw[HT.out]
 clear HT c0 c1 c2 d0 d1 d2 z0 z1 z2 fz HR0
 rw[rounds_succ]
 obtain⟨c0,c1,c2,d0,d1,d2,z0,z1,z2⟩:=HP0.out.cells
 have fz:=HP0.out.soft 1
 have HC:=hid (S1.out t0 HP0.out.bel)
 go_wp2_with fail
 clear c0 c1 c2 d0 d1 d2 z0 z1 z2 fz
 refine HC.out.mono ?_
 rintro e r1 ⟨u,rfl,hb,hu⟩
 obtain⟨a1,m1,j1,rfl⟩:=hu.any
 have HR1:=hid (HP0.out.next hb)
 have HU1:=hid hu
 have HU0:=hid (HU0.out.below hb)
 clear hb hu HC HP0
 obtain⟨c0,c1,c2,d0,d1,d2,z0,z1,z2⟩:=HR1.out.cells
 have fz:=HR1.out.soft 1
 obtain⟨t1,ht1⟩:∃t1,t1=r1.setCell ⟨w.heap.size+1+1,1,none⟩ (.slice a1 m1 j1):=⟨_,rfl⟩
 have hp:=HR1.out.put1 (.slice a1 m1 j1)
 obtain⟨-,hne,hsz⟩:=HR1.out.ne 1 (.slice a1 m1 j1)
 have hno:=zbc HR1.out.h2 ⟨_,_,_,rfl⟩ ⟨_,_,_,rfl⟩ ⟨_,_,_,rfl⟩
 rw[<-ht1] at hp hne hsz
 have HP1:=hid hp
 have HU1:=hid (HU1.out.other hne hsz hno)
 have HU0:=hid (HU0.out.other hne hsz hno)
 have HT:=hid ht1.symm
 clear hp hne hsz hno ht1
 go_wp2_with fail
 try rw[HT.out]
 clear HT c0 c1 c2 d0 d1 d2 z0 z1 z2 fz HR1
 rw[rounds_succ]
 obtain⟨c0,c1,c2,d0,d1,d2,z0,z1,z2⟩:=HP1.out.cells
 have fz:=HP1.out.soft 2
 have HC:=hid (S2.out t1 HP1.out.bel)
 go_wp2_with fail
 clear c0 c1 c2 d0 d1 d2 z0 z1 z2 fz
 refine HC.out.mono ?_
 rintro e r2 ⟨u,rfl,hb,hu⟩
 obtain⟨a2,m2,j2,rfl⟩:=hu.any
 have HR2:=hid (HP1.out.next hb)
 have HU2:=hid hu
 have HU0:=hid (HU0.out.below hb)
 have HU1:=hid (HU1.out.below hb)
 clear hb hu HC HP1
 obtain⟨c0,c1,c2,d0,d1,d2,z0,z1,z2⟩:=HR2.out.cells
 have fz:=HR2.out.soft 2
 obtain⟨t2,ht2⟩:∃t2,t2=r2.setCell ⟨w.heap.size+1+1,2,none⟩ (.slice a2 m2 j2):=⟨_,rfl⟩
 have hp:=HR2.out.put2 (.slice a2 m2 j2)
 obtain⟨-,hne,hsz⟩:=HR2.out.ne 2 (.slice a2 m2 j2)
 have hno:=zbc HR2.out.h2 ⟨_,_,_,rfl⟩ ⟨_,_,_,rfl⟩ ⟨_,_,_,rfl⟩
 rw[<-ht2] at hp hne hsz
 have HP2:=hid hp
 have HU2:=hid (HU2.out.other hne hsz hno)
 have HU0:=hid (HU0.out.other hne hsz hno)
 have HU1:=hid (HU1.out.other hne hsz hno)
 have HT:=hid ht2.symm
 clear hp hne hsz hno ht2
 go_wp2_with fail
 try rw[HT.out]
 clear HT c0 c1 c2 d0 d1 d2 z0 z1 z2 fz HR2
 rw[rounds_succ]
 obtain⟨c0,c1,c2,d0,d1,d2,z0,z1,z2⟩:=HP2.out.cells
 have HC:=hid (A1.out t2 _ _ HP2.out.bel HU0.out HU1.out)
 go_wp2_with fail
 clear c0 c1 c2 d0 d1 d2 z0 z1 z2
 refine HC.out.mono ?_
 rintro e r3 ⟨u,rfl,hb,hu⟩
 obtain⟨a3,m3,j3,rfl⟩:=hu.any
 have HP3:=hid (HP2.out.next hb)
 have HU3:=hid hu
 have HU2:=hid (HU2.out.below hb)
 clear hb hu HC HP2 HU0 HU1
 obtain⟨c0,c1,c2,d0,d1,d2,z0,z1,z2⟩:=HP3.out.cells
 have HC:=hid (A2.out r3 _ _ HP3.out.bel HU3.out HU2.out)
 go_wp2_with fail
 refine HC.out.mono ?_
 rintro e r4 ⟨u,rfl,hb,hu⟩
 obtain⟨a4,m4,j4,rfl⟩:=hu.any
 have HF:=hid (⟨HP3.out.bel.trans (hb.mono HP3.out.bel.size),hu⟩:qL w r4/\SdL (.slice a4 m4 j4) M2 r4)
 clear hb hu HC c0 c1 c2 d0 d1 d2 z0 z1 z2
 go_wp2_with fail
 go_ret2
 exact⟨_,rfl,HF.out.1,HF.out.2⟩
end Go.Proofs.YtccijmidbdapaaaGreatDoor
