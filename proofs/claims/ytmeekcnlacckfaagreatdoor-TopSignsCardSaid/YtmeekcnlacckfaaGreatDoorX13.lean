/- surd.Sign of any surd; a surd and its opposite have no like signs. -/
import Derived.Test.YtmeekcnlacckfaaGreatDoorX12
set_option maxRecDepth 100000
set_option maxHeartbeats 8000000
open Go renaming World → zA, Calls → zC
open Go.Lib renaming decDigits → zD, itoa → zE
open Go.Proofs.Tryz renaming prog → zF
open Go.World renaming alloc_heap_new → zG
open Go.IntWalk renaming i64_in → zI
open Go.Joins renaming cell_of_block → zJ
open Go.RowKit renaming intOf → zL
open Go.RowKit.Below renaming refl → zM
open Nat renaming le_refl → zN, le_trans → zO, zero_le → zR, lt_of_lt_of_le → zS, le_of_lt → zT, pos_of_ne_zero → yS
open List renaming mem_cons_self → yD
open Int renaming natCast_add → yJ, natAbs_mul → yK
namespace Go.Proofs.YtmeekcnlacckfaaGreatDoor
section
open Go.RowKit Go.Shelf Lib Str Limb
attribute [local go_sem] Oper.semAt_some
def trN (t:Rat×Nat) (p:Nat):Nat:=t.1.num.natAbs*t.1.num.natAbs*t.2*10^(2*p)
def flT (t:Rat×Nat) (p:Nat):Int:=floT t.1 (isq (trN t p)) (trN t p)
def valZ:List (Rat×Nat)->Nat->Int
 |[],_=>0
 |t::l,p=>flT t p+valZ l p
theorem z0a (p:Nat):∀l m:List (Rat×Nat),valZ (l++m) p=valZ l p+valZ m p
 |[],m=>by simp[valZ]
 |t::l,m=>by
  rw[List.cons_append];show flT t p+valZ (l++m) p=flT t p+valZ l p+valZ m p;rw[z0a p l m];omega
theorem zyg {l:List (Rat×Nat)} {i:Nat} {t:Rat×Nat} (h:l[i]? =some t) (p:Nat):valZ (l.take (i+1)) p=valZ (l.take i) p+flT t p:=by
 rw[List.take_add_one,h,z0a];show _+(flT t p+0)=_;omega
def sgnL (l:List (Rat×Nat)):Int:=if l=[] then 0 else sgnP l.length λk=>valZ l (plN k)
def sgeL (l:List (Rat×Nat)):Int:=if l=[] then 0 else errP (sgnL l)
theorem z3a {t:Rat×Nat} (h:TrmR t.1 t.2) (k:Nat):trN t (plN k)<10^134*10^134:=by
 have h1:=h.sc.1;have h2:t.2<10^20:=(zaf _ _ (by omega)).1 h.nr.len;have h3:(10:Nat)^(2*plN k)<=10^128:=Nat.pow_le_pow_right (by omega) (by have:=zn3 k;omega);have h4:t.1.num.natAbs*t.1.num.natAbs*t.2<10^140:=zcc (i:=120) (j:=20) (zcc (i:=60) (j:=60) h1 h1) h2;unfold trN
 calc _<10^140*10^(2*plN k):=Nat.mul_lt_mul_of_pos_right h4 (yS (by simp))
  _<=10^140*10^128:=Nat.mul_le_mul_left _ h3
  _=10^134*10^134:=by decide+kernel
theorem z54 {n:Nat} (h:n<10^134*10^134):isq n<10^134:=Nat.mul_self_lt_mul_self_iff.1 (Nat.lt_of_le_of_lt (zv0 n).1 h)
theorem z5h {t:Rat×Nat} (h:TrmR t.1 t.2) (k:Nat):(zD (trN t (plN k))).length<=290:=by
 have:(10:Nat)^134*10^134<=10^290:=by decide+kernel
 exact zil (by omega) (zS (z3a h k) this)
theorem z3e {t:Rat×Nat} (h:TrmR t.1 t.2) (k:Nat):(flT t (plN k)).natAbs<=10^134:=by
 have hs:=z54 (z3a h k);have hd:=Nat.div_le_self (isq (trN t (plN k))) t.1.den;unfold flT floT;generalize isq (trN t (plN k))/t.1.den=x at*
 split
 ·rw[Int.natAbs_neg,Int.natAbs_natCast]
  split<;>omega
 ·rw[Int.natAbs_natCast]
  omega
theorem z5i {l:List (Rat×Nat)} (h:∀t∈l,TrmR t.1 t.2) (k:Nat):(valZ l (plN k)).natAbs<=l.length*10^134:=by
 induction l with
 |nil=>simp[valZ]
 |cons t l ih=>
  have h1:=z3e (h t (yD ..)) k;have h2:=ih λu hu=>h u (List.mem_cons_of_mem _ hu);show(flT t (plN k)+valZ l (plN k)).natAbs<=(l.length+1)*10^134;rw[Nat.add_mul,Nat.one_mul];omega
theorem z55 (v:Value) (l:List (Rat×Nat)) (h:SdOk l) (w:zA) (hw:Wd w) (hp:Spw w) (hv:SdL v l w):
 qJ 62 #[v] w (.tuple #[.int .i64 (sgnL l),.int .i64 (sgeL l)]):=by
 obtain⟨p,cap,rfl, -,hx⟩:=hv.slice;by_cases h0:l=[]
 ·subst h0
  exact zkl p cap w
 have hl0:0<l.length:=List.length_pos_iff.2 h0;have hl:=h.len;rw[show sgeL l=errP (sgnL l) from if_neg h0,show sgnL l=sgnP l.length λk=>valZ l (plN k) from if_neg h0];have z48:zE 0=[48]:=zb9;have z49:zE 1=[49]:=by rw[show(1:Int)=((1:Nat):Int) from rfl,Str.zad,zae (by omega)];rfl
 have dz:∀z:Int,z.natAbs<=12*10^134+12->digs z<=300:=λz hz=>by
  have p1:12*(10:Nat)^134+12<10^140:=by decide+kernel
  exact zO (zhd (k:=140) (by omega) (by omega)) (by omega)
 have vb:∀(k i:Nat),(valZ (l.take i) (plN k)).natAbs<=12*10^134:=λk i=>by
  have h1:=z5i (l:=l.take i) (λt ht=>h.trm t (List.mem_of_mem_take ht)) k;have h2:(l.take i).length<=12:=by rw[List.length_take];omega
  exact zO h1 (Nat.mul_le_mul_right _ h2)
 have at_:∀i,i<l.length->∃t,l[i]? =some t:=λi hi=>⟨_,List.getElem?_eq_getElem hi⟩;have hg:∀(i:Nat) (t:Rat×Nat),l[i]? =some t->l[i]?.getD (1,1)=t:=λi t h=>by rw[h];rfl
 have hall:=zj5 p cap l.length hl0 (by omega) (λi=>numS (l[i]?.getD (1,1)).1) (λi=>zD (l[i]?.getD (1,1)).2) (λk i=>flT (l[i]?.getD (1,1)) (plN k)) (λk i=>valZ (l.take i) (plN k)) (hid λk=>rfl)
  (hid λk i hk hi W hW=>by
    obtain⟨t,ht⟩:=at_ i hi;rw[hg i t ht];have htr:=h.trm t (List.mem_of_getElem? ht);exact zul t.1 t.2 (plN k) (isq (trN t (plN k))) (trN t (plN k)) (zd0 (by omega) (by omega) htr.sc) htr.ne htr.nr.pos (by have:=zn3 k;omega) rfl (z5h htr k) (zv0 _) W hW)
  (hid λk i hk hi W hW=>by
    obtain⟨t,ht⟩:=at_ i hi;rw[hg i t ht,zyg ht];have h1:=vb k i;have h2:=vb k (i+1);rw[zyg ht] at h2;have h3:=z3e (h.trm t (List.mem_of_getElem? ht)) k;exact zva _ _ (dz _ (by omega)) (dz _ (by omega)) (dz _ (by omega)) W hW)
  (hid λk j hk hj W hW=>by
    have h1:=vb k l.length;have:=zva (valZ (l.take l.length) (plN k)+(j:Int)) 1 (dz _ (by omega)) (dz _ (by omega)) (dz _ (by omega)) W hW;rw[z49,show valZ (l.take l.length) (plN k)+(j:Int)+1=valZ (l.take l.length) (plN k)+((j+1:Nat):Int) by omega] at this;exact this)
  (hid λk j hk hj W hW=>by
    have h1:=vb k l.length;have:=zsx (valZ (l.take l.length) (plN k)+(j:Int)) 0 (dz _ (by omega)) (dz _ (by omega)) W;rw[z48] at this;exact this)
  w (hid hw) (hid hp)
  (hid λi hi=>by
    obtain⟨t,ht⟩:=at_ i hi;rw[hg i t ht];exact hx i t ht)
 rw[List.take_length] at hall;exact hall
theorem z5j (v:Value) (l:List (Rat×Nat)) (h:SdOk l) (w:zA) (HW:Hid (∀W,qL w W->Wd W)) (HP:Hid (∀W,qL w W->Pw W)) (HS:Hid (∀W,qL w W->Spw W)) (hv:SdL v l w):
 qJ 17 #[v] w (.tuple #[.int .i64 (sgnL l),.int .i64 (sgeL l)]):=by
 obtain⟨p,cap,e, -⟩:=hv.slice;subst e;exact zff p l.length cap _ _ w (hid (zbh _ l h w (HW.out w (zM _ _)) (HP.out w (zM _ _)) hv)) (hid λW hW=>z55 _ l h W (HW.out W hW) (HS.out W hW) (hv.below hW))
theorem z41 {a b:Nat} (h:a*a<=b*b):a<=b:=Nat.mul_self_le_mul_self_iff.1 h
theorem z6o {a b:Nat} (h:a*a<b*b):a<b:=Nat.mul_self_lt_mul_self_iff.1 h
theorem zzd (M d p q:Nat) (hd:0<d):
 (isq (M*10^(2*p))/d)*10^q<=(isq (M*10^(2*q))/d+(if isq (M*10^(2*q))*isq (M*10^(2*q))=M*10^(2*q)/\isq (M*10^(2*q))%d=0 then 0 else 1))*10^p/\
 (isq (M*10^(2*q))/d+(if isq (M*10^(2*q))*isq (M*10^(2*q))=M*10^(2*q)/\isq (M*10^(2*q))%d=0 then 0 else 1))*10^p<(isq (M*10^(2*p))/d+1)*10^q+10^p:=by
 obtain⟨s1,s2⟩:=zv0 (M*10^(2*p));obtain⟨r1,r2⟩:=zv0 (M*10^(2*q));generalize isq (M*10^(2*p))=s at*
 generalize isq (M*10^(2*q))=r at*
 have ep:(10:Nat)^(2*p)=10^p*10^p:=by rw[Nat.two_mul,Nat.pow_add]
 have eq:(10:Nat)^(2*q)=10^q*10^q:=by rw[Nat.two_mul,Nat.pow_add]
 rw[ep] at s1 s2;rw[eq] at r1 r2⊢;have hP:0<(10:Nat)^p:=yS (by simp);have hQ:0<(10:Nat)^q:=yS (by simp);generalize (10:Nat)^p=P at*
 generalize (10:Nat)^q=Q at*
 have a1:s/d*d<=s:=Nat.div_mul_le_self s d;have a2:s<(s/d+1)*d:=by
  have:=Nat.lt_div_mul_add hd (a:=s);rw[Nat.add_mul,Nat.one_mul];exact this
 have b1:r/d*d<=r:=Nat.div_mul_le_self r d;have b2:r<(r/d+1)*d:=by
  have:=Nat.lt_div_mul_add hd (a:=r);rw[Nat.add_mul,Nat.one_mul];exact this
 have b3:r%d=0->r/d*d=r:=λh=>Nat.div_mul_cancel (Nat.dvd_of_mod_eq_zero h);generalize s/d=x at*
 generalize r/d=y at*
 have c1:(x*d)*(x*d)<=M*(P*P):=zO (Nat.mul_le_mul a1 a1) s1;have c2:M*(P*P)<((x+1)*d)*((x+1)*d):=zS s2 (Nat.mul_le_mul a2 a2);have c3:(y*d)*(y*d)<=M*(Q*Q):=zO (Nat.mul_le_mul b1 b1) r1;have mono:∀{a b c:Nat},a<=b->a*c<=b*c:=λh=>Nat.mul_le_mul_right _ h;constructor
 ·split
  ·rename_i h
   have c4:(y*d)*(y*d)=M*(Q*Q):=by rw[b3 h.2];exact h.1
   have:(x*Q*d)*(x*Q*d)<=(y*P*d)*(y*P*d):=by
    calc (x*Q*d)*(x*Q*d)=(x*d)*(x*d)*(Q*Q):=by ac_rfl
     _<=M*(P*P)*(Q*Q):=mono c1
     _=M*(Q*Q)*(P*P):=by ac_rfl
     _=(y*d)*(y*d)*(P*P):=by rw[c4]
     _=(y*P*d)*(y*P*d):=by ac_rfl
   have:=z41 this;exact Nat.le_of_mul_le_mul_right this hd
  ·have c4:M*(Q*Q)<=((y+1)*d)*((y+1)*d):=zT (zS r2 (Nat.mul_le_mul b2 b2))
   have:(x*Q*d)*(x*Q*d)<=((y+1)*P*d)*((y+1)*P*d):=by
    calc (x*Q*d)*(x*Q*d)=(x*d)*(x*d)*(Q*Q):=by ac_rfl
     _<=M*(P*P)*(Q*Q):=mono c1
     _=M*(Q*Q)*(P*P):=by ac_rfl
     _<=((y+1)*d)*((y+1)*d)*(P*P):=mono c4
     _=((y+1)*P*d)*((y+1)*P*d):=by ac_rfl
   have:=z41 this;exact Nat.le_of_mul_le_mul_right this hd
 ·have:(y*P*d)*(y*P*d)<((x+1)*Q*d)*((x+1)*Q*d):=by
   calc (y*P*d)*(y*P*d)=(y*d)*(y*d)*(P*P):=by ac_rfl
    _<=M*(Q*Q)*(P*P):=mono c3
    _=M*(P*P)*(Q*Q):=by ac_rfl
    _<((x+1)*d)*((x+1)*d)*(Q*Q):=Nat.mul_lt_mul_of_pos_right c2 (Nat.mul_pos hQ hQ)
    _=((x+1)*Q*d)*((x+1)*Q*d):=by ac_rfl
  have:=z6o this;have:y*P<(x+1)*Q:=Nat.lt_of_mul_lt_mul_right this;rw[Nat.add_mul];split
  ·rw[Nat.zero_mul];omega
  ·rw[Nat.one_mul];omega
theorem z56 (c:Rat):(-c).num= -c.num/\(-c).den=c.den:=⟨rfl,rfl⟩
theorem z57 (t:Rat×Nat) (hne:t.1≠0) (p q:Nat):
 flT t p*(10^q:Nat)+flT (ngT t) q*(10^p:Nat)<=0/\0<(flT t p+1)*(10^q:Nat)+(flT (ngT t) q+1)*(10^p:Nat):=by
 have hn0:t.1.num≠0:=λe=>hne (Rat.num_eq_zero.1 e);have hd:=t.1.den_pos;obtain⟨n1,n2⟩:=z56 t.1;have hM:trN (ngT t) q=t.1.num.natAbs*t.1.num.natAbs*t.2*10^(2*q):=by
  show(-t.1).num.natAbs*(-t.1).num.natAbs*t.2*10^(2*q)=_;rw[n1,Int.natAbs_neg]
 have hM0:trN t p=t.1.num.natAbs*t.1.num.natAbs*t.2*10^(2*p):=rfl;unfold flT floT;rw[hM,hM0,show(ngT t).1= -t.1 from rfl,n1,n2];generalize t.1.num.natAbs*t.1.num.natAbs*t.2=M;by_cases hs:t.1.num<0
 ·rw[if_pos hs,if_neg (show ¬ -t.1.num<0 by omega)]
  obtain⟨f1,f2⟩:=zzd M t.1.den q p hd;generalize isq (M*10^(2*q))/t.1.den=x at*
  generalize (isq (M*10^(2*p))/t.1.den+if isq (M*10^(2*p))*isq (M*10^(2*p))=M*10^(2*p)/\isq (M*10^(2*p))%t.1.den=0 then 0 else 1)=y at*
  generalize (10:Nat)^p=P at*
  generalize (10:Nat)^q=Q at*
  have g1:((x*P:Nat):Int)<=((y*Q:Nat):Int):=by exact_mod_cast f1
  have g2:((y*Q:Nat):Int)<(((x+1)*P+Q:Nat):Int):=by exact_mod_cast f2
  simp only[Int.natCast_mul,yJ,Int.natCast_one] at g1 g2;rw[Int.neg_mul,Int.add_mul,Int.add_mul,Int.neg_mul];rw[Int.add_mul] at g2;simp only[Int.one_mul] at*
  omega
 ·rw[if_neg hs,if_pos (show-t.1.num<0 by have:=hn0;omega)]
  obtain⟨f1,f2⟩:=zzd M t.1.den p q hd;generalize isq (M*10^(2*p))/t.1.den=x at*
  generalize (isq (M*10^(2*q))/t.1.den+if isq (M*10^(2*q))*isq (M*10^(2*q))=M*10^(2*q)/\isq (M*10^(2*q))%t.1.den=0 then 0 else 1)=y at*
  generalize (10:Nat)^p=P at*
  generalize (10:Nat)^q=Q at*
  have g1:((x*Q:Nat):Int)<=((y*P:Nat):Int):=by exact_mod_cast f1
  have g2:((y*P:Nat):Int)<(((x+1)*Q+P:Nat):Int):=by exact_mod_cast f2
  simp only[Int.natCast_mul,yJ,Int.natCast_one] at g1 g2;rw[Int.neg_mul,Int.add_mul,Int.add_mul,Int.neg_mul];rw[Int.add_mul] at g2;simp only[Int.one_mul] at*
  omega
theorem z2y (p q:Nat):∀l:List (Rat×Nat),(∀t∈l,t.1≠0)->valZ l p*(10^q:Nat)+valZ (l.map ngT) q*(10^p:Nat)<=0/\(l≠[]->0<(valZ l p+l.length)*(10^q:Nat)+(valZ (l.map ngT) q+l.length)*(10^p:Nat))
 |[],_=>⟨by simp[valZ],λh=>absurd rfl h⟩
 |t::l,h=>by
  obtain⟨a1,a2⟩:=z57 t (h t (yD ..)) p q;obtain⟨b1,b2⟩:=z2y p q l λu hu=>h u (List.mem_cons_of_mem _ hu);rw[List.map_cons];show(flT t p+valZ l p)*_+(flT (ngT t) q+valZ (l.map ngT) q)*_<=0/\(_->0<(flT t p+valZ l p+((l.length+1:Nat):Int))*_+(flT (ngT t) q+valZ (l.map ngT) q+((l.length+1:Nat):Int))*_);generalize ((10^p:Nat):Int)=P at*
  generalize ((10^q:Nat):Int)=Q at*
  refine⟨by rw[Int.add_mul,Int.add_mul];omega,λ_=>?_⟩;have e:(flT t p+valZ l p+((l.length+1:Nat):Int))*Q+(flT (ngT t) q+valZ (l.map ngT) q+((l.length+1:Nat):Int))*P=((flT t p+1)*Q+(flT (ngT t) q+1)*P)+((valZ l p+(l.length:Int))*Q+(valZ (l.map ngT) q+(l.length:Int))*P):=by
   rw[yJ];grind
  rw[e];by_cases hl:l=[]
  ·subst hl
   simp[valZ];simpa using a2
  ·have:=b2 hl
   omega
theorem zu6 (n:Nat) (Z:Nat->Int):(sgnP n Z=1/\∃k,0<Z k)\/(sgnP n Z= -1/\∃k,Z k+n<=0)\/sgnP n Z=0:=by
 have r:∀k,(zap n k (Z k)=1/\0<Z k)\/(zap n k (Z k)= -1/\Z k+n<=0)\/zap n k (Z k)=0:=λk=>by
  unfold zap;split
  ·exact .inl ⟨rfl,by assumption⟩
  ·split
   ·exact .inr (.inl ⟨rfl,by omega⟩)
   ·exact .inr (.inr rfl)
 unfold sgnP;split
 ·rcases r 0 with⟨h,k⟩|⟨h,k⟩|h
  ·exact .inl ⟨h,0,k⟩
  ·exact .inr (.inl ⟨h,0,k⟩)
  ·exact .inr (.inr h)
 ·split
  ·rcases r 1 with⟨h,k⟩|⟨h,k⟩|h
   ·exact .inl ⟨h,1,k⟩
   ·exact .inr (.inl ⟨h,1,k⟩)
   ·exact .inr (.inr h)
  ·rcases r 2 with⟨h,k⟩|⟨h,k⟩|h
   ·exact .inl ⟨h,2,k⟩
   ·exact .inr (.inl ⟨h,2,k⟩)
   ·exact .inr (.inr h)
theorem yb2 {l:List (Rat×Nat)} (h:∀t∈l,t.1≠0) (h1:sgeL l=0) (h2:sgeL (l.map ngT)=0):sgnL l= -sgnL (l.map ngT):=by
 by_cases h0:l=[]
 ·subst h0;rfl
 have hm:l.map ngT≠[]:=by simpa using h0
 have hl:(l.map ngT).length=l.length:=List.length_map ..;have pw:∀k:Nat,(0:Int)<((10^k:Nat):Int):=λk=>by
  have:0<(10:Nat)^k:=yS (by simp);exact_mod_cast this
 unfold sgeL errP at h1 h2;rw[if_neg h0] at h1;rw[if_neg hm] at h2;have n1:sgnL l≠0:=λe=>by rw[if_pos e] at h1;cases h1
 have n2:sgnL (l.map ngT)≠0:=λe=>by rw[if_pos e] at h2;cases h2
 unfold sgnL at*
 rw[if_neg h0] at*
 rw[if_neg hm] at*
 rw[hl] at*
 rcases zu6 l.length (λk=>valZ l (plN k)) with⟨e1,k,hk⟩|⟨e1,k,hk⟩|e1
 ·rcases zu6 l.length (λk=>valZ (l.map ngT) (plN k)) with⟨e2,q,hq⟩|⟨e2,q,hq⟩|e2
  ·exfalso
   have:=(z2y (plN k) (plN q) l h).1;have a:=Int.mul_pos hk (pw (plN q));have b:=Int.mul_pos hq (pw (plN k));omega
  ·rw[e1,e2];rfl
  ·exact absurd e2 n2
 ·rcases zu6 l.length (λk=>valZ (l.map ngT) (plN k)) with⟨e2,q,hq⟩|⟨e2,q,hq⟩|e2
  ·rw[e1,e2]
  ·exfalso
   have:=(z2y (plN k) (plN q) l h).2 h0;have a:=Int.mul_nonpos_of_nonpos_of_nonneg hk (Int.le_of_lt (pw (plN q)));have b:=Int.mul_nonpos_of_nonpos_of_nonneg hq (Int.le_of_lt (pw (plN k)));omega
  ·exact absurd e2 n2
 ·exact absurd e1 n1
end
section
open Go.RowKit Go.Shelf Lib Str Limb
def Bd (f:Nat->Rat):Prop:=∃K:Rat,∀q, -K<=f q/\f q<=K
theorem Bd.add {f g:Nat->Rat} (hf:Bd f) (hg:Bd g):Bd λq=>f q+g q:=by
 obtain⟨K,h⟩:=hf;obtain⟨L,k⟩:=hg;exact⟨K+L,λq=>by have:=h q;have:=k q;constructor<;>grind⟩
theorem Bd.neg {f:Nat->Rat} (hf:Bd f):Bd λq=> -f q:=by
 obtain⟨K,h⟩:=hf;exact⟨K,λq=>by have:=h q;constructor<;>grind⟩
theorem Bd.zero:Bd λ_=>0:=⟨0,λ_=>by constructor<;>grind⟩
theorem Bd.congr {f g:Nat->Rat} (hf:Bd f) (h:∀q,g q=f q):Bd g:=by
 obtain⟨K,k⟩:=hf;exact⟨K,λq=>by rw[h];exact k q⟩
theorem Bd.smul {f:Nat->Rat} (hf:Bd f) (c:Rat):Bd λq=>c*f q:=by
 obtain⟨K,h⟩:=hf;rcases(show 0<=c\/0<= -c by grind) with hc|hc
 ·refine⟨c*K,λq=>?_⟩
  have h1:=Rat.mul_le_mul_of_nonneg_left (h q).1 hc;have h2:=Rat.mul_le_mul_of_nonneg_left (h q).2 hc;constructor<;>grind
 ·refine⟨-c*K,λq=>?_⟩
  have h1:=Rat.mul_le_mul_of_nonneg_left (h q).1 hc;have h2:=Rat.mul_le_mul_of_nonneg_left (h q).2 hc;constructor<;>grind
def rtF (r q:Nat):Nat:=isq (r*10^(2*q))
theorem z8h {a b r s:Nat} (h:b*b*r=a*a*s) (q:Nat):a*rtF s q<=b*rtF r q+b/\b*rtF r q<=a*rtF s q+a:=by
 obtain⟨r1,r2⟩:=zv0 (r*10^(2*q));obtain⟨s1,s2⟩:=zv0 (s*10^(2*q));unfold rtF;generalize isq (r*10^(2*q))=x at*
 generalize isq (s*10^(2*q))=y at*
 generalize 10^(2*q)=M at*
 have e:b*b*(r*M)=a*a*(s*M):=by rw[<-Nat.mul_assoc,h,Nat.mul_assoc]
 constructor
 ·refine z41 ?_
  calc a*y*(a*y)=a*a*(y*y):=by ac_rfl
   _<=a*a*(s*M):=Nat.mul_le_mul_left _ s1
   _=b*b*(r*M):=e.symm
   _<=b*b*((x+1)*(x+1)):=Nat.mul_le_mul_left _ (zT r2)
   _=(b*x+b)*(b*x+b):=by rw[show b*x+b=b*(x+1) by rw[Nat.mul_add,Nat.mul_one]];ac_rfl
 ·refine z41 ?_
  calc b*x*(b*x)=b*b*(x*x):=by ac_rfl
   _<=b*b*(r*M):=Nat.mul_le_mul_left _ r1
   _=a*a*(s*M):=e
   _<=a*a*((y+1)*(y+1)):=Nat.mul_le_mul_left _ (zT s2)
   _=(a*y+a)*(a*y+a):=by rw[show a*y+a=a*(y+1) by rw[Nat.mul_add,Nat.mul_one]];ac_rfl
theorem z9o (n r q:Nat):n*rtF r q<=isq (n*n*r*10^(2*q))+1/\isq (n*n*r*10^(2*q))<=n*rtF r q+n:=by
 have h:=z8h (a:=n) (b:=1) (r:=n*n*r) (s:=r) (by simp) q;rw[Nat.one_mul] at h;exact h
theorem z64 {x m d:Rat} (hd:1<=d) (hm:0<=m) (h:x*d<=m):x<=m:=by
 rcases(show x<=m\/m<x by grind) with k|k
 ·exact k
 ·have:=Rat.mul_le_mul_of_nonneg_left hd (show 0<=x by grind)
  grind
theorem z82 {c:Rat} {m d s z y:Nat} (hd:0<d) (hc:c*(d:Rat)=(m:Rat)) (h1:m*y<=s+1) (h2:s<=m*y+m) (a1:z*d<=s) (a2:s<(z+1)*d): -2<=(z:Rat)-c*(y:Rat)/\(z:Rat)-c*(y:Rat)<=(m:Rat):=by
 have hd1:(1:Rat)<=(d:Rat):=by exact_mod_cast hd
 have b1:(m:Rat)*(y:Rat)<=(s:Rat)+1:=by exact_mod_cast h1
 have b2:(s:Rat)<=(m:Rat)*(y:Rat)+(m:Rat):=by exact_mod_cast h2
 have b3:(z:Rat)*(d:Rat)<=(s:Rat):=by exact_mod_cast a1
 have b4:(s:Rat)<((z:Rat)+1)*(d:Rat):=by exact_mod_cast a2
 have b5:(0:Rat)<=(m:Rat):=by exact_mod_cast zR m
 have e:c*(y:Rat)*(d:Rat)=(m:Rat)*(y:Rat):=by rw[<-hc];grind
 generalize (m:Rat)=M at*
 generalize (d:Rat)=D at*
 generalize (s:Rat)=S at*
 generalize (z:Rat)=Z at*
 generalize (y:Rat)=Y at*
 constructor
 ·have:=z64 (x:= -(Z-c*Y+1)) (m:=1) hd1 (by decide) (by grind)
  grind
 ·exact z64 hd1 b5 (by grind)
theorem ycr (t:Rat×Nat) (q:Nat): -(((t.1.num.natAbs:Nat):Rat)+3)<=((flT t q:Int):Rat)-t.1*((rtF t.2 q:Nat):Rat)/\((flT t q:Int):Rat)-t.1*((rtF t.2 q:Nat):Rat)<=((t.1.num.natAbs:Nat):Rat)+3:=by
 obtain⟨c,r⟩:=t;have hd:0<c.den:=c.den_pos;have nd:=zb0 c;obtain⟨h1,h2⟩:=z9o c.num.natAbs r q;have h3:c.num.natAbs*c.num.natAbs*r*10^(2*q)=trN (c,r) q:=rfl;rw[h3] at h1 h2;have b5:(0:Rat)<=((c.num.natAbs:Nat):Rat):=by exact_mod_cast zR _
 show-_<=((floT c (isq (trN (c,r) q)) (trN (c,r) q):Int):Rat)-c*((rtF r q:Nat):Rat)/\((floT c (isq (trN (c,r) q)) (trN (c,r) q):Int):Rat)-c*((rtF r q:Nat):Rat)<=_;unfold floT;have a1:isq (trN (c,r) q)/c.den*c.den<=isq (trN (c,r) q):=Nat.div_mul_le_self _ _;have a2:isq (trN (c,r) q)<(isq (trN (c,r) q)/c.den+1)*c.den:=by
  have:=Nat.lt_div_mul_add hd (a:=isq (trN (c,r) q));rw[Nat.add_mul,Nat.one_mul];exact this
 by_cases hn:c.num<0
 ·rw[if_pos hn]
  have e: -c*(c.den:Rat)=((c.num.natAbs:Nat):Rat):=by
   have e1:((c.num.natAbs:Nat):Int)= -c.num:=by omega
   have e2:((c.num.natAbs:Nat):Rat)=((-c.num:Int):Rat):=by rw[<-e1];rfl
   rw[e2,Rat.intCast_neg,nd];grind
  have k:=z82 (c:= -c) hd e h1 h2 a1 a2;generalize isq (trN (c,r) q)/c.den=z at*
  have h01:∃ε:Nat,ε<=1/\(if isq (trN (c,r) q)*isq (trN (c,r) q)=trN (c,r) q/\isq (trN (c,r) q)%c.den=0 then 0 else 1)=ε:=by split;exact⟨0,by omega,rfl⟩;exact⟨1,by omega,rfl⟩
  obtain⟨ε,he,hε⟩:=h01;rw[hε,Rat.intCast_neg,Rat.intCast_natCast,Rat.natCast_add];have he1:(ε:Rat)<=1:=by exact_mod_cast he
  have he0:(0:Rat)<=(ε:Rat):=by exact_mod_cast zR ε
  generalize (ε:Rat)=E at*
  constructor<;>grind
 ·rw[if_neg hn]
  have e:c*(c.den:Rat)=((c.num.natAbs:Nat):Rat):=by
   have e1:((c.num.natAbs:Nat):Int)=c.num:=by omega
   have e2:((c.num.natAbs:Nat):Rat)=((c.num:Int):Rat):=by rw[<-e1];rfl
   rw[e2,nd]
  have k:=z82 hd e h1 h2 a1 a2;rw[Rat.intCast_natCast];constructor<;>grind
theorem z63 (t:Rat×Nat):Bd λq=>((flT t q:Int):Rat)-t.1*((rtF t.2 q:Nat):Rat):=⟨_,ycr t⟩
def vZ (l:List (Rat×Nat)) (q:Nat):Rat:=((valZ l q:Int):Rat)
theorem z68 (q:Nat):vZ [] q=0:=rfl
theorem z60 (t:Rat×Nat) (l:List (Rat×Nat)) (q:Nat):vZ (t::l) q=((flT t q:Int):Rat)+vZ l q:=by
 show(((flT t q+valZ l q:Int)):Rat)=_;rw[Rat.intCast_add];rfl
theorem z71 (l m:List (Rat×Nat)) (q:Nat):vZ (l++m) q=vZ l q+vZ m q:=by
 unfold vZ;rw[z0a,Rat.intCast_add]
theorem z83 {r s:Nat} (hr:0<r) (hs:0<s) (h:z5c (r:Rat) (s:Rat)=true):Bd λq=>((rtF r q:Nat):Rat)-rt ((r:Rat)/(s:Rat))*((rtF s q:Nat):Rat):=by
 have hr':(0:Rat)<(r:Rat):=by exact_mod_cast hr
 have hs':(0:Rat)<(s:Rat):=by exact_mod_cast hs
 have e:=zxd (div_pos hr' hs') h;have hk:=zlx ((r:Rat)/(s:Rat));generalize rt ((r:Rat)/(s:Rat))=k at*
 have hd:0<k.den:=k.den_pos;have nd:=zb0 k;have hn:0<=k.num:=Rat.num_nonneg.2 hk;have e2:((k.num.natAbs:Nat):Rat)=k*(k.den:Rat):=by
  rw[<-nd];have:((k.num.natAbs:Nat):Int)=k.num:=Int.natAbs_of_nonneg hn;exact_mod_cast congrArg (Int.cast (R:=Rat)) this
 have hb:k.den*k.den*r=k.num.natAbs*k.num.natAbs*s:=by
  have:(k.den:Rat)*(k.den:Rat)*(r:Rat)=((k.num.natAbs:Nat):Rat)*((k.num.natAbs:Nat):Rat)*(s:Rat):=by
   rw[e2];have e3:k*k*(s:Rat)=(r:Rat):=by rw[e];grind
   rw[<-e3];grind
  exact_mod_cast this
 refine⟨1+((k.num.natAbs:Nat):Rat),λq=>?_⟩;dsimp only;obtain⟨h1,h2⟩:=z8h hb q;have hd1:(1:Rat)<=(k.den:Rat):=by exact_mod_cast hd
 have b1:((k.num.natAbs:Nat):Rat)*((rtF s q:Nat):Rat)<=(k.den:Rat)*((rtF r q:Nat):Rat)+(k.den:Rat):=by exact_mod_cast h1
 have b2:(k.den:Rat)*((rtF r q:Nat):Rat)<=((k.num.natAbs:Nat):Rat)*((rtF s q:Nat):Rat)+((k.num.natAbs:Nat):Rat):=by exact_mod_cast h2
 have b3:(0:Rat)<=((k.num.natAbs:Nat):Rat):=by exact_mod_cast zR _
 generalize ((rtF r q:Nat):Rat)=x at*
 generalize ((rtF s q:Nat):Rat)=y at*
 generalize ((k.num.natAbs:Nat):Rat)=m at*
 generalize (k.den:Rat)=d at*
 constructor
 ·have:=z64 (x:= -(x-k*y+1)) (m:=0) hd1 (by decide) (by rw[e2] at b1;grind)
  grind
 ·have:=z64 (x:=x-k*y) hd1 b3 (by rw[e2] at b2⊢;grind)
  grind
theorem yaj {c t:Rat×Nat} (hc:0<c.2) (ht:0<t.2) (h:z5c (t.2:Rat) (c.2:Rat)=true):Bd λq=>((flT (plG c t) q:Int):Rat)-(((flT c q:Int):Rat)+((flT t q:Int):Rat)):=by
 have hc':(0:Rat)<(c.2:Rat):=by exact_mod_cast hc
 have ht':(0:Rat)<(t.2:Rat):=by exact_mod_cast ht
 unfold plG;split
 ·refine((z63 (t.1+c.1*rt ((c.2:Rat)/(t.2:Rat)),t.2)).add (((z63 c).add (z63 t)).neg.add ((z83 hc ht (zu5 ht' hc' h)).smul c.1).neg)).congr λq=>?_
  dsimp only;grind
 ·refine((z63 (c.1+t.1*rt ((t.2:Rat)/(c.2:Rat)),c.2)).add (((z63 c).add (z63 t)).neg.add ((z83 ht hc h).smul t.1).neg)).congr λq=>?_
  dsimp only;grind
theorem z84 {t:Rat×Nat} (ht:(0:Rat)<(t.2:Rat)):∀{l:List (Rat×Nat)},PosR l->Bd λq=>vZ (gaG l t) q-(vZ l q+((flT t q:Int):Rat))
 |[],_=>Bd.zero.congr λq=>by show vZ [t] q-_=0;rw[z60,z68];grind
 |c::l,h=>by
  have hc:=h c (yD ..);unfold gaG;split
  ·rename_i k
   exact(yaj (by exact_mod_cast hc) (by exact_mod_cast ht) k).congr λq=>by rw[z60,z60];grind
  ·exact(z84 ht λd hd=>h d (List.mem_cons_of_mem _ hd)).congr λq=>by rw[z60,z60];grind
theorem z86:∀{T A:List (Rat×Nat)},PosR A->PosR T->Bd λq=>vZ (T.foldl gaG A) q-(vZ A q+vZ T q)
 |[],A,_,_=>Bd.zero.congr λq=>by rw[List.foldl_nil,z68];grind
 |t::T,A,hA,hT=>by
  have ht:=hT t (yD ..);have hA':PosR (gaG A t):=λc hc=>by
   rcases z44 hc with⟨d,hd,e⟩|e
   ·rw[<-e];exact hA d hd
   ·rw[<-e];exact ht
  rw[List.foldl_cons];exact((z86 hA' λc hc=>hT c (List.mem_cons_of_mem _ hc)).add (z84 ht hA)).congr λq=>by rw[z60];grind
theorem yak (r q:Nat):flT (0,r) q=0:=by
 unfold flT floT trN;simp[isq];rfl
theorem z7q (q:Nat):∀l:List (Rat×Nat),vZ (l.filter λc=>!decide (c.1=0)) q=vZ l q
 |[]=>rfl
 |t::l=>by
  rw[List.filter_cons];by_cases h:t.1=0
  ·rw[if_neg (by simp[h]),z7q q l,z60]
   have:flT t q=0:=by
    have:=yak t.2 q;rw[<-h] at this;exact this
   rw[this];grind
  ·rw[if_pos (by simp[h]),z60,z60,z7q q l]
theorem z9p (q:Nat) (t:Rat×Nat):∀l:List (Rat×Nat),vZ (insS t l) q=((flT t q:Int):Rat)+vZ l q
 |[]=>z60 t [] q
 |c::l=>by
  unfold insS;split
  ·exact z60 t (c::l) q
  ·rw[z60,z60,z9p q t l];grind
theorem z9q (q:Nat):∀l:List (Rat×Nat),vZ (srtS l) q=vZ l q
 |[]=>rfl
 |t::l=>by rw[show srtS (t::l)=insS t (srtS l) from rfl,z9p,z9q q l,z60]
theorem z7t {T:List (Rat×Nat)} (hT:PosR T):Bd λq=>vZ (mkG T) q-vZ T q:=
 (z86 (A:=[]) (λ_ h=>by cases h) hT).congr λq=>by
   unfold mkG keG;rw[z9q,z7q,z68];grind
theorem z7x (c:Rat):∀l:List (Rat×Nat),Bd λq=>vZ (sclL l c) q-c*vZ l q
 |[]=>Bd.zero.congr λq=>by rw[z68];show vZ [] q-_=0;rw[z68];grind
 |t::l=>by
  refine((z7x c l).add ((z63 (t.1*c,t.2)).add ((z63 t).smul c).neg)).congr λq=>?_;rw[z60,show sclL (t::l) c=(t.1*c,t.2)::sclL l c from rfl,z60];grind
theorem yal {t:Rat×Nat} (hne:t.1≠0) (p q:Nat):flT t p*(10^q:Nat)<=(flT t q+1)*(10^p:Nat):=by
 have h1:=(z57 t hne p q).1;have h2:=(z57 t hne q q).2;have hP:(0:Int)<((10^p:Nat):Int):=by exact_mod_cast yS (by simp)
 have hQ:(0:Int)<((10^q:Nat):Int):=by exact_mod_cast yS (by simp)
 generalize ((10^p:Nat):Int)=P at*
 generalize ((10^q:Nat):Int)=Q at*
 generalize flT t p=a at*
 generalize flT t q=b at*
 generalize flT (ngT t) q=g at*
 rw[<-Int.add_mul] at h2;have h3:0<b+1+(g+1):=by
  rcases(show 0<b+1+(g+1)\/b+1+(g+1)<=0 by omega) with k|k
  ·exact k
  ·have:=Int.mul_le_mul_of_nonneg_right k (Int.le_of_lt hQ)
   omega
 have h4:=Int.mul_le_mul_of_nonneg_right (show-(b+1)<=g by omega) (Int.le_of_lt hP);rw[Int.neg_mul] at h4;omega
theorem z7y (p q:Nat):∀l:List (Rat×Nat),(∀t∈l,t.1≠0)->valZ l p*(10^q:Nat)<=(valZ l q+l.length)*(10^p:Nat)
 |[],_=>by show(0:Int)*_<=(0+((0:Nat):Int))*_;simp
 |t::l,h=>by
  have h1:=yal (h t (yD ..)) p q;have h2:=z7y p q l λc hc=>h c (List.mem_cons_of_mem _ hc);show(flT t p+valZ l p)*_<=(flT t q+valZ l q+((l.length+1:Nat):Int))*_;generalize ((10^p:Nat):Int)=P at*
  generalize ((10^q:Nat):Int)=Q at*
  have e:(flT t q+valZ l q+((l.length+1:Nat):Int))*P=(flT t q+1)*P+(valZ l q+(l.length:Int))*P:=by
   rw[<-Int.add_mul];congr 1;omega
  rw[e,Int.add_mul];omega
theorem yam (C:Rat):∃q:Nat,C<((10^q:Nat):Rat):=by
 refine⟨C.num.natAbs,?_⟩;have h1:C.num.natAbs<10^C.num.natAbs:=Nat.lt_pow_self (by omega);have h2:((C.num.natAbs:Nat):Rat)<((10^C.num.natAbs:Nat):Rat):=by exact_mod_cast h1
 have nd:=zb0 C;have hd:(1:Rat)<=(C.den:Rat):=by exact_mod_cast C.den_pos
 have h3:((C.num:Int):Rat)<=((C.num.natAbs:Nat):Rat):=by
  have:C.num<=((C.num.natAbs:Nat):Int):=by omega
  exact_mod_cast this
 have h4:(0:Rat)<=((C.num.natAbs:Nat):Rat):=by exact_mod_cast zR _
 have:=z64 hd h4 (x:=C) (by rw[<-nd];exact h3);grind
end
section
open Go.RowKit Go.Shelf Lib Str Limb
attribute [local go_sem] Oper.semAt_some
def b2 (b:Rat):List (Rat×Nat):=[(b,2)]
section
variable {w W W':zA} {o:Nat} {a b c a' b' c':List UInt8} {d d':Value} {l:List (Rat×Nat)} {f g:Nat->Bool}
end
section
variable {w W W':zA} {a b c a2 b2 c2:List UInt8} {v d:Value} {l l2:List (Rat×Nat)} {f g:Nat->Bool}
end
section
variable {w W W':zA} {s0 s1 s2 p0 p1 p2:Value} {x0 x1 x2:List UInt8}
end
section
variable {w W W':zA} {P:Nat} {p0 p1 p2:Value} {x0 x1 x2:List UInt8}
end
section
variable {w W W':zA} {a b c:List UInt8} {d s0 s1 s2 r:Value} {M:List (Rat×Nat)} {E F:Prop} {er:Int} {f g:Nat->Bool}
end
structure Hw (w:zA):Prop where
 wd:Wd w
 pw:Pw w
 sw:Spw w
theorem Hw.below {w w':zA} (h:Hw w) (hb:qL w w'):Hw w':=⟨h.wd.below hb,h.pw.below hb,h.sw.below hb⟩
theorem Hw.d {w:zA} (h:Hw w):Hid (∀W,qL w W->Wd W):=hid λ_ hW=>(h.below hW).wd
theorem Hw.p {w:zA} (h:Hw w):Hid (∀W,qL w W->Pw W):=hid λ_ hW=>(h.below hW).pw
theorem Hw.s {w:zA} (h:Hw w):Hid (∀W,qL w W->Spw W):=hid λ_ hW=>(h.below hW).sw
theorem z2e {l r:List (Rat×Nat)} (hl:SdOk l) (hr:SdOk r) (hlen:l.length+r.length<=12) (hs:∀c∈mkG (l++r),sz c.1 60):SdOk (mkG (l++r)):=
 z5t (λt ht=>((List.mem_append.1 ht).elim (λh=>hl.trm t h) λh=>hr.trm t h).nr) (by simpa using hlen) hs
def zzx (w:zA) (G:Prop) (e:Ending) (w':zA):Prop:=∃b:Bool,e=.returned (.bool b)/\(b=false->G)/\Below w.heap.size w w'
def IdxI (w:zA) (n:Nat) (G:Nat->Prop) (e:Ending) (w':zA):Prop:=∃k:Int,e=.returned (.int .i64 k)/\((k= -1/\∀i,i<n->G i)\/0<=k)/\Below w.heap.size w w'
def YesI (w:zA) (G:Prop) (e:Ending) (w':zA):Prop:=∃b:Bool,e=.returned (.bool b)/\(b=true->G)/\Below w.heap.size w w'
def RowSl (p:Option Addr) (n:Nat) (D:Nat->Value) (W:zA):Prop:=∀i,i<n->∃b off,p=some ⟨b,off,none⟩/\W.cell? ⟨b,off+i,none⟩=some (D i)
theorem RowSl.keep {p:Option Addr} {n:Nat} {D:Nat->Value} {W W':zA} (h:RowSl p n D W) (hc:CellsKept W W'):RowSl p n D W':=λi hi=>let ⟨b,off,e,h1⟩:=h i hi;⟨b,off,e,hc.cell h1⟩
def RowTt (p:Option Addr) (n:Nat) (X Y:Nat->List UInt8) (W:zA):Prop:=∀i,i<n->∃b off,p=some ⟨b,off,none⟩/\W.cell? ⟨b,off+i*2,none⟩=some (St (X i))/\W.cell? ⟨b,off+i*2+1,none⟩=some (St (Y i))
theorem RowTt.keep {p:Option Addr} {n:Nat} {X Y:Nat->List UInt8} {W W':zA} (h:RowTt p n X Y W) (hc:CellsKept W W'):RowTt p n X Y W':=λi hi=>let ⟨b,off,e,h1,h2⟩:=h i hi;⟨b,off,e,hc.cell h1,hc.cell h2⟩
def zm0 (q:Rat):Prop:=digs q.num<=9/\(zD q.den).length<=9
theorem z4m (q:Rat):(denS q).length<=9↔(zD q.den).length<=9:=by
 unfold denS;split
 ·rename_i h
  rw[h];have:(zD 1).length=1:=by decide+kernel
  simp[this]
 ·exact Iff.rfl
theorem yai (q:Rat) (h:okN q) (hn:¬zm0 q) (w:zA):
 qJ 276 #[St (numS q)] w (.tuple #[.int .i64 0,.int .i64 0,.bool false]):=by
 have hc:=zx3 q h w;have hl1:(zD q.num.natAbs).length<=300:=h.1;have hl2:(denS q).length<=300:=by unfold denS;split;exact zR _;exact h.2
 have hor:9<(zD q.num.natAbs).length\/((zD q.num.natAbs).length<=9/\9<(denS q).length):=by
  have:=z4m q;by_cases h1:(zD q.num.natAbs).length<=9
  ·right
   refine⟨h1,?_⟩;rcases Nat.lt_or_ge 9 (denS q).length with h2|h2
   ·exact h2
   ·exact absurd ⟨h1,this.1 h2⟩ hn
  ·left;omega
 have HC:=hid hc;clear hc h hn;generalize zD q.num.natAbs=a at*
 generalize denS q=ds at*
 generalize numS q=s at*
 generalize decide (q.num<0)=mb at*
 generalize decide (q.den≠1)=db at*
 go_enter Tryz.func276,Tryz.ntmps276;go_wp21;refine zzM HC.out λw1 hb=>?_;rcases hor with h1|⟨h1,h2⟩
 ·have g1:(9:Int)<a.length:=by omega
  go_wp21;go_ret3;exact⟨rfl,hb⟩
 ·have g1:¬(9:Int)<a.length:=by omega
  have g2:(9:Int)<ds.length:=by omega
  go_wp21;go_ret3;exact⟨rfl,hb⟩
theorem zu7 (q:Rat) (h:okN q) (hn:zm0 q) (w:zA):
 qJ 276 #[St (numS q)] w (.tuple #[.int .i64 q.num,.int .i64 (q.den:Int),.bool true]):=by
 have hc:=zx3 q h w;have hl1:(zD q.num.natAbs).length<=9:=hn.1;have hl2:(denS q).length<=9:=(z4m q).2 hn.2;have s1:=λW=>zz9 (zD q.num.natAbs) (zan _) (by omega) W;have s2:=λW=>zz9 (zD q.den) (zan _) (by have:=hn.2;omega) W;rw[zb2] at s1 s2;have b1:q.num.natAbs<1000000000:=(zaf _ 9 (by omega)).1 hn.1;have hd2:q.den≠1->denS q=zD q.den:=λe=>by unfold denS;rw[if_neg e]
 have HC:=hid hc;have S1:=hid s1;have S2:=hid s2;have HD2:=hid hd2;obtain⟨a,ha⟩:=zzX q.num.natAbs;rw[<-ha] at HC S1 hl1 b1;have g1:¬(9:Int)<(zD a).length:=by omega
 have g2:¬(9:Int)<(denS q).length:=by omega
 clear hc h hn s1 s2 hd2;generalize zD a=da at*
 generalize numS q=s at*
 by_cases hm:q.num<0<;>by_cases h1:q.den=1
 ·rw[decide_eq_true hm,decide_eq_false (by simpa using h1)] at HC
  have hw:IntKind.i64.wrap (-(a:Int))=q.num:=by rw[show-(a:Int)=q.num by omega];exact zI _ (by omega)
  rw[h1];clear hm ha HD2 b1;generalize q.num=nn at*
  generalize denS q=ds at*
  generalize q.den=den at*
  generalize zD den=dd at*
  go_enter Tryz.func276,Tryz.ntmps276;go_wp21;refine zzM HC.out λw1 hb=>?_;go_wp21;refine zzM (S1.out w1) λw2 hw2=>?_;have hw2':=hw2.symm;subst hw2';go_wp21;go_ret3;exact⟨rfl,hb⟩
 ·rw[decide_eq_true hm,decide_eq_true (by simpa using h1)] at HC
  have hw:IntKind.i64.wrap (-(a:Int))=q.num:=by rw[show-(a:Int)=q.num by omega];exact zI _ (by omega)
  rw[HD2.out h1] at HC g2 hl2;clear hm ha HD2 b1;generalize q.num=nn at*
  generalize denS q=ds at*
  generalize q.den=den at*
  generalize zD den=dd at*
  go_enter Tryz.func276,Tryz.ntmps276;go_wp21;refine zzM HC.out λw1 hb=>?_;go_wp21;refine zzM (S1.out w1) λw2 hw2=>?_;have hw2':=hw2.symm;subst hw2';go_wp21;refine zzM (S2.out w1) λw3 hw3=>?_;have hw3':=hw3.symm;subst hw3';go_wp21;go_ret3;exact⟨rfl,hb⟩
 ·rw[decide_eq_false hm,decide_eq_false (by simpa using h1)] at HC
  have hw:(q.num:Int)=(a:Int):=by omega
  rw[hw];rw[h1];clear hm ha HD2 b1 hw;generalize q.num=nn at*
  generalize denS q=ds at*
  generalize q.den=den at*
  generalize zD den=dd at*
  go_enter Tryz.func276,Tryz.ntmps276;go_wp21;refine zzM HC.out λw1 hb=>?_;go_wp21;refine zzM (S1.out w1) λw2 hw2=>?_;have hw2':=hw2.symm;subst hw2';go_wp21;go_ret3;exact⟨rfl,hb⟩
 ·rw[decide_eq_false hm,decide_eq_true (by simpa using h1)] at HC
  have hw:(q.num:Int)=(a:Int):=by omega
  rw[hw];rw[HD2.out h1] at HC g2 hl2;clear hm ha HD2 b1 hw;generalize q.num=nn at*
  generalize denS q=ds at*
  generalize q.den=den at*
  generalize zD den=dd at*
  go_enter Tryz.func276,Tryz.ntmps276;go_wp21;refine zzM HC.out λw1 hb=>?_;go_wp21;refine zzM (S1.out w1) λw2 hw2=>?_;have hw2':=hw2.symm;subst hw2';go_wp21;refine zzM (S2.out w1) λw3 hw3=>?_;have hw3':=hw3.symm;subst hw3';go_wp21;go_ret3;exact⟨rfl,hb⟩
theorem zxu (a b c d:Int) (ha:digs a<=300) (hb:digs b<=300) (hc:digs c<=300) (hd:digs d<=300) (hab:digs (a*b)<=300) (hcd:digs (c*d)<=300) (w:zA) (hw:Wd w):
 qJ 277 #[St (zE a),St (zE b),St (zE c),St (zE d)] w (.tuple #[St (zE (a*b)),St (zE (c*d)),.int .i64 0]):=by
 have c1:=λW hW=>z4f a b ha hb hab W hW;have c2:=λW hW=>z4f c d hc hd hcd W hW;have HW:=hid hw;have C1:=hid c1;have C2:=hid c2;clear c1 c2 hw ha hb hc hd hab hcd;generalize zE (a*b)=x at*
 generalize zE (c*d)=y at*
 generalize zE a=sa at*
 generalize zE b=sb at*
 generalize zE c=sc at*
 generalize zE d=sd at*
 go_enter Tryz.func277,Tryz.ntmps277;go_wp21;refine zzM (C1.out w HW.out) λw1 hb1=>?_;have HB1:=hid hb1;clear hb1;go_wp21;refine zzM (C2.out w1 (HW.out.below HB1.out)) λw2 hb2=>?_;have HB2:=qT HB1 hb2;clear hb2;go_wp21;go_ret3;exact⟨rfl,HB2.out⟩
theorem z6h (n k:Nat) (h:n≠k) (l:List UInt8) (hl:zD k=l):(zD n==l)=false/\¬zD n=l:=by
 have:¬zD n=l:=λe=>h (by rw[<-hl] at e;have:=congrArg val e;rwa [zb2,zb2] at this);exact⟨by rw[beq_eq_false_iff_ne];exact this,this⟩
theorem zft (q:Rat) (h:okN q) (w:zA) (hw:Wd w):
 qJ 33 #[St (numS q)] w (.int .i64 0):=by
 refine(zuj (numS q) (z10 h) w hw).mono ?_;rintro e w' ⟨r,rfl,hr,hb⟩;rw[hr.2 ⟨q,rfl,h⟩];exact⟨rfl,hb⟩
theorem zx4 (q r:Rat) (hq:okN q) (hr:okN r) (w:zA) (hw:Wd w):
 qJ 275 #[St (numS q),St (numS r)] w (.int .i64 0):=by
 have c1:=λW hW=>zft q hq W hW;have c2:=λW hW=>zft r hr W hW;generalize numS q=x at*
 generalize numS r=y at*
 have C1:=hid c1;have C2:=hid c2;have HW:=hid hw;clear c1 c2 hq hr hw;go_enter Tryz.func275,Tryz.ntmps275;go_wp21;refine zzM (C1.out w HW.out) λw1 hb1=>?_;have HB1:=hid hb1;clear hb1;go_wp21;refine zzM (C2.out w1 (HW.out.below HB1.out)) λw2 hb2=>?_;have HB2:=qT HB1 hb2;clear hb2;go_wp21;go_ret;exact⟨rfl,HB2.out⟩
theorem znm (q:Rat) (h:okN q) (w:zA) (hw:Wd w):
 qJ 207 #[St (numS q)] w (.tuple #[St (zE q.num),St (zD q.den),.int .i64 0]):=by
 have c1:=zft q h w hw;have c2:=λW=>z2d q h W;generalize numS q=x at*
 generalize zE q.num=n at*
 generalize zD q.den=d at*
 have C1:=hid c1;have C2:=hid c2;clear c1 c2 h hw;go_enter Tryz.func207,Tryz.ntmps207;go_wp21;refine zzM C1.out λw1 hb1=>?_;have HB1:=hid hb1;clear hb1;go_wp21;refine zzM (C2.out w1) λw2 hb2=>?_;have HB2:=qT HB1 hb2;clear hb2;go_wp21;go_ret3;exact⟨rfl,HB2.out⟩
theorem zvq (z:Int) (s:ByteArray) (hs:s=⟨(zE z).toArray⟩):∃h:0<s.size,(((s[0]'h).toNat:Int)==45)=decide (z<0)/\(z<0->s.extract 1 s.size=⟨(zD z.natAbs).toArray⟩):=by
 obtain⟨b1,b2⟩:=zdd (zE z) s hs;have hp:0<(zE z).length:=zS (zbn z) (zbr z);have h:0<s.size:=by omega
 refine⟨h,?_,?_⟩
 ·rw[b2 0 hp h]
  rcases zbg z with⟨k,e⟩|⟨k,e⟩
  ·rw[decide_eq_false (by omega),beq_eq_false_iff_ne]
   have hd:=zan z.natAbs ((zE z)[0]'hp) (by simp only[e];exact List.getElem_mem _);omega
  ·rw[decide_eq_true k,beq_iff_eq]
   simp only[e];rfl
 ·intro k
  rcases zbg z with⟨k',e⟩|⟨_,e⟩
  ·omega
  ·rw[hs,zev,e];rfl
theorem z3m (n:Nat) (s:ByteArray) (hs:s=⟨(zD n).toArray⟩):∃h:0<s.size,(((s[0]'h).toNat:Int)==45)=false:=by
 obtain⟨h,e,_⟩:=zvq (n:Int) s (by rw[Str.zad];exact hs);exact⟨h,by rw[e];simp⟩
theorem z5p (n:Int) (D:Nat) (hD:0<D) (hm:n<0) (h1:(zE n).length<=18) (h2:(zD D).length<=18) (w:zA):
 qJ 358 #[St (zE n),St (zD D)] w (.tuple #[St (numS (Rat.divInt n (D:Int))),.int .i64 0]):=by
 have hn18:n.natAbs<1000000000000000000:=(za3 n 18 (by omega)).1 (zO (zbr n) h1);have hD18:D<1000000000000000000:=(zaf D 18 (by omega)).1 h2;have hdl:(zD n.natAbs).length<=18:=(zaf _ 18 (by omega)).2 hn18;have s1:=λW=>zz9 (zD n.natAbs) (zan _) hdl W;have s2:=λW=>zz9 (zD D) (zan _) h2 W;rw[zb2] at s1 s2;have qk:=λW=>z2b n D (by omega) hD (by omega) W;obtain⟨sn,hsn⟩:=zzX (⟨(zE n).toArray⟩:ByteArray);obtain⟨sd,hsd⟩:=zzX (⟨(zD D).toArray⟩:ByteArray);obtain⟨p1,p2,p3⟩:=zvq n sn hsn;obtain⟨r1,r2⟩:=z3m D sd hsd;have l1:sn.size<=18:=by rw[hsn];exact h1
 have l2:sd.size<=18:=by rw[hsd];exact h2
 have l1':(sn.size:Int)<=18:=by omega
 have l2':(sd.size:Int)<=18:=by omega
 rw[decide_eq_true hm] at p2;have hx:=p3 hm;have hw:IntKind.i64.wrap (-(n.natAbs:Int))=n:=by rw[show-(n.natAbs:Int)=n by omega];exact zI _ (by omega)
 show zC _ _ #[.string ⟨(zE n).toArray⟩,.string ⟨(zD D).toArray⟩] _ _;have s2':∀W:zA,zC zF 94 #[.string sd] W λe w'=>e=.returned (I D)/\w'=W:=λW=>by rw[hsd];exact s2 W
 obtain⟨su,hsu⟩:=zzX (⟨(zD n.natAbs).toArray⟩:ByteArray);have s1':∀W:zA,zC zF 94 #[.string su] W λe w'=>e=.returned (I n.natAbs)/\w'=W:=λW=>by rw[hsu];exact s1 W
 rw[<-hsu] at hx;rw[<-hsn,<-hsd];have S1:=hid s1';have S2:=hid s2';have QK:=hid qk;clear s1 s2 qk s1' s2' hsn hsd h1 h2 hdl p3 hsu;generalize numS (Rat.divInt n (D:Int))=t at*
 generalize n.natAbs=na at*
 go_enter Tryz.func358,Tryz.ntmps358;go_wp21;refine zzM (S1.out w) λw1 hw1=>?_;have hw1':=hw1.symm;subst hw1';go_wp21;refine zzM (S2.out w) λw2 hw2=>?_;have hw2':=hw2.symm;subst hw2';go_wp21;refine zzM (QK.out w) λw3 hb3=>?_;go_wp21;go_ret2;exact⟨rfl,hb3⟩
theorem z5q (n:Int) (D:Nat) (hD:0<D) (hm:¬n<0) (h1:(zE n).length<=18) (h2:(zD D).length<=18) (w:zA):
 qJ 358 #[St (zE n),St (zD D)] w (.tuple #[St (numS (Rat.divInt n (D:Int))),.int .i64 0]):=by
 have hn18:n.natAbs<1000000000000000000:=(za3 n 18 (by omega)).1 (zO (zbr n) h1);have hD18:D<1000000000000000000:=(zaf D 18 (by omega)).1 h2;have hdl:(zD n.natAbs).length<=18:=(zaf _ 18 (by omega)).2 hn18;have s1:=λW=>zz9 (zD n.natAbs) (zan _) hdl W;have s2:=λW=>zz9 (zD D) (zan _) h2 W;rw[zb2] at s1 s2;have qk:=λW=>z2b n D (by omega) hD (by omega) W;obtain⟨sn,hsn⟩:=zzX (⟨(zE n).toArray⟩:ByteArray);obtain⟨sd,hsd⟩:=zzX (⟨(zD D).toArray⟩:ByteArray);obtain⟨p1,p2,p3⟩:=zvq n sn hsn;obtain⟨r1,r2⟩:=z3m D sd hsd;have l1:sn.size<=18:=by rw[hsn];exact h1
 have l2:sd.size<=18:=by rw[hsd];exact h2
 have l1':(sn.size:Int)<=18:=by omega
 have l2':(sd.size:Int)<=18:=by omega
 rw[decide_eq_false hm] at p2;have hx:zE n=zD n.natAbs:=by rcases zbg n with⟨_,e⟩|⟨k,_⟩;exact e;omega
 have hw:(n:Int)=(n.natAbs:Int):=by omega
 rw[<-hx] at s1;show zC _ _ #[.string ⟨(zE n).toArray⟩,.string ⟨(zD D).toArray⟩] _ _;have s2':∀W:zA,zC zF 94 #[.string sd] W λe w'=>e=.returned (I D)/\w'=W:=λW=>by rw[hsd];exact s2 W
 have s1':∀W:zA,zC zF 94 #[.string sn] W λe w'=>e=.returned (I n.natAbs)/\w'=W:=λW=>by rw[hsn];exact s1 W
 have qk':∀W:zA,qJ 331 #[I n.natAbs,I D] W (St (numS (Rat.divInt n (D:Int)))):=λW=>by have:=qk W;rw[hw] at this;rw[hw];exact this
 rw[<-hsn,<-hsd];have S1:=hid s1';have S2:=hid s2';have QK:=hid qk';clear s1 s2 qk s1' s2' hsn hsd h1 h2 hdl p3 hx qk' hw;generalize numS (Rat.divInt n (D:Int))=t at*
 generalize n.natAbs=na at*
 go_enter Tryz.func358,Tryz.ntmps358;go_wp21;refine zzM (S1.out w) λw1 hw1=>?_;have hw1':=hw1.symm;subst hw1';go_wp21;refine zzM (S2.out w) λw2 hw2=>?_;have hw2':=hw2.symm;subst hw2';go_wp21;refine zzM (QK.out w) λw3 hb3=>?_;go_wp21;go_ret2;exact⟨rfl,hb3⟩
theorem z9v (n:Int) (D g d1:Nat) (q1:Int) (hD:0<D) (hg:g=Int.gcd n (D:Int)) (hq:n=q1*g) (hd:D=d1*g) (hn3:digs n<=300) (hd3:(zD D).length<=300) (hor:18<(zE n).length\/((zE n).length<=18/\18<(zD D).length)) (w:zA) (hw:Wd w):
 qJ 358 #[St (zE n),St (zD D)] w (.tuple #[St (zE q1++if d1=1 then[] else 47::zD d1),.int .i64 0]):=by
 have o1:∀m:Nat,18<m->¬(m:Int)<=18:=λm h=>by omega
 have o2:∀m:Nat,m<=18->(m:Int)<=18:=λm h=>by omega
 have hg0:0<g:=by rw[hg];exact Int.gcd_pos_of_ne_zero_right _ (by omega)
 have hd10:0<d1:=yS (λe=>by rw[e,Nat.zero_mul] at hd;omega);have hgd:(zD g).length<=300:=by
  rw[zaf _ _ (by omega)] at hd3⊢;have:g<=D:=by rw[hd];exact Nat.le_mul_of_pos_left _ hd10
  exact Nat.lt_of_le_of_lt this hd3
 have hq3:digs q1<=300:=by
  rw[za3 _ _ (by omega)] at hn3⊢;have:q1.natAbs<=n.natAbs:=by rw[hq,yK];exact Nat.le_mul_of_pos_right _ (by omega)
  exact Nat.lt_of_le_of_lt this hn3
 have hd13:(zD d1).length<=300:=by
  rw[zaf _ _ (by omega)] at hd3⊢;have:d1<=D:=by rw[hd];exact Nat.le_mul_of_pos_right _ hg0
  exact Nat.lt_of_le_of_lt this hd3
 have dg:∀k:Nat,digs (k:Int)=(zD k).length:=λk=>by unfold digs;rw[Int.natAbs_natCast]
 have yg:=λW hW=>zgm n (D:Int) hn3 (by rw[dg];exact hd3) W hW;have y1:=λW hW=>zxt n (g:Int) q1 hq (by omega) hn3 (by rw[dg];exact hgd) W hW;have y2:=λW hW=>zxt (D:Int) (g:Int) (d1:Int) (by rw[hd,Int.natCast_mul]) (by omega) (by rw[dg];exact hd3) (by rw[dg];exact hgd) W hW;rw[<-hg] at yg;rw[Str.zad,Str.zad] at yg y2;rw[Str.zad] at y1 y2;obtain⟨sn,hsn⟩:=zzX (⟨(zE n).toArray⟩:ByteArray);obtain⟨sd,hsd⟩:=zzX (⟨(zD D).toArray⟩:ByteArray);obtain⟨sq,hsq⟩:=zzX (⟨(zE q1).toArray⟩:ByteArray);obtain⟨r1,r2⟩:=z3m D sd hsd;obtain⟨p1,p2,p3⟩:=zvq q1 sq hsq;have hsz:sn.size=(zE n).length:=by rw[hsn];rfl
 have hszd:sd.size=(zD D).length:=by rw[hsd];rfl
 have hszq:sq.size<=301:=by
  have:sq.size=(zE q1).length:=by rw[hsq];rfl
  have:=za7 q1;omega
 have hsg:((((sq[0]'p1).toNat:Int)==45)=true/\∃su:ByteArray,sq.extract 1 sq.size=su/\¬(300:Int)<su.size)\/((((sq[0]'p1).toNat:Int)==45)=false/\¬(300:Int)<sq.size):=by
  by_cases hqm:q1<0
  ·refine .inl ⟨by rw[p2,decide_eq_true hqm],_,p3 hqm,?_⟩
   have:(⟨(zD q1.natAbs).toArray⟩:ByteArray).size<=300:=hq3;omega
  ·have e:zE q1=zD q1.natAbs:=by rcases zbg q1 with⟨_,e⟩|⟨k,_⟩;exact e;exact absurd k hqm
   have:sq.size<=300:=by rw[hsq,e];exact hq3
   exact .inr ⟨by rw[p2,decide_eq_false hqm],by omega⟩
 have yg':qK 95 #[.string sn,.string sd] (.tuple #[St (zD g),.int .i64 0]):=λW hW=>by rw[hsn,hsd];exact yg W hW
 have y1':qK 315 #[.string sn,St (zD g)] (.tuple #[.string sq,St [48],.int .i64 0]):=λW hW=>by rw[hsn,hsq];exact y1 W hW
 have y2':qK 315 #[.string sd,St (zD g)] (.tuple #[St (zD d1),St [48],.int .i64 0]):=λW hW=>by rw[hsd];exact y2 W hW
 have hdl:(d1=1/\zD d1=[49])\/(¬d1=1/\((zD d1==[49])=false/\¬zD d1=[49])):=by
  by_cases h1:d1=1
  ·exact .inl ⟨h1,by rw[h1];decide+kernel⟩
  ·exact .inr ⟨h1,z6h d1 1 h1 [49] (by decide+kernel)⟩
 have j2:¬(300:Int)<(zD d1).length:=by omega
 have f1:¬(9223372036854775807<sq.size+1):=by omega
 have f2:¬(9223372036854775807<sq.size+1+(zD d1).length):=by omega
 show zC _ _ #[.string ⟨(zE n).toArray⟩,.string ⟨(zD D).toArray⟩] _ _;rw[<-hsn,<-hsd];rw[<-hsz,<-hszd] at hor;replace hor:(¬(sn.size:Int)<=18)\/((sn.size:Int)<=18/\¬(sd.size:Int)<=18):=hor.imp (o1 _) λh=>⟨o2 _ h.1,o1 _ h.2⟩;have YG:=hid yg';have Y1:=hid y1';have Y2:=hid y2';have HW:=hid hw;have HSQ:=hid hsq;clear o1 o2 yg y1 y2 yg' y1' y2' hw hsn hsd hsz hszd hg hq hd hn3 hd3 hg0 hgd hd10 hq3 dg p2 p3 hsq;generalize zD g=gl at*
 generalize zD d1=dl at*
 rcases hor with k1|⟨k1,k2⟩<;>rcases hdl with⟨h1,rfl⟩|⟨h1,z5,z6⟩<;>rcases hsg with⟨p2,su,hx,j1⟩|⟨p2,j1⟩
 all_goals
  first|rw[if_pos h1]|rw[if_neg h1]
  clear h1;go_enter Tryz.func358,Tryz.ntmps358;go_wp21;refine zzM (YG.out w HW.out) λw1 hb1=>?_;have HB1:=hid hb1;clear hb1;go_wp21;refine zzM (Y1.out w1 (HW.out.below HB1.out)) λw2 hb2=>?_;have HB2:=qT HB1 hb2;clear hb2;go_wp21;refine zzM (Y2.out w2 (HW.out.below HB2.out)) λw3 hb3=>?_;have HB3:=qT HB2 hb3;clear hb3;go_wp21;go_ret2;refine⟨?_,HB3.out⟩
  first
   |show Ending.returned (.tuple #[.string sq,.int .i64 0])=_
    rw[HSQ.out,List.append_nil]
   |show Ending.returned (.tuple #[.string ((sq++⟨#[47]⟩)++⟨dl.toArray⟩),.int .i64 0])=_
    rw[HSQ.out,show(⟨#[47]⟩:ByteArray)=⟨([47]:List UInt8).toArray⟩ from rfl,z3x,z3x,List.append_assoc];rfl
theorem z9w (n:Int) (D:Nat) (hD:0<D) (hn3:digs n<=300) (hd3:(zD D).length<=300) (w:zA) (hw:Wd w):
 qJ 358 #[St (zE n),St (zD D)] w (.tuple #[St (numS (Rat.divInt n (D:Int))),.int .i64 0]):=by
 by_cases hs:(zE n).length<=18/\(zD D).length<=18
 ·by_cases hm:n<0
  ·exact z5p n D hD hm hs.1 hs.2 w
  ·exact z5q n D hD hm hs.1 hs.2 w
 ·have hor:18<(zE n).length\/((zE n).length<=18/\18<(zD D).length):=by omega
  obtain⟨g,hg⟩:=zzX (Int.gcd n (D:Int));have hg0:0<g:=by rw[hg];exact Int.gcd_pos_of_ne_zero_right _ (by omega)
  have hgn:((g:Int))∣n:=by rw[hg];exact Int.gcd_dvd_left ..
  have hgD:g∣D:=by
   have h:((Int.gcd n (D:Int):Nat):Int)∣(D:Int):=Int.gcd_dvd_right ..;rw[<-hg] at h;exact Int.natCast_dvd_natCast.1 h
  have hq:n=(n/(g:Int))*(g:Int):=(Int.ediv_mul_cancel hgn).symm;have hd:D=(D/g)*g:=(Nat.div_mul_cancel hgD).symm;have e:=zif n (D:Int) (by omega);rw[<-hg,<-Int.natCast_ediv,Str.zad] at e;have h:=z9v n D g (D/g) (n/g) hD hg hq hd hn3 hd3 hor w hw;rw[e];by_cases h1:D/g=1
  ·rw[if_pos (by omega)];rwa [if_pos h1] at h
  ·rw[if_neg (by omega)];rwa [if_neg h1] at h
theorem z6i {q:Rat} {k:Nat} (hk:0<k) (hk3:k<=300) (h:sz q k):okN q:=
 ⟨zO ((za3 _ k hk).2 h.1) hk3,zO ((zaf _ k hk).2 h.2) hk3⟩
theorem zx6 {q:Rat} (h:zm0 q):q.num.natAbs<1000000000/\q.den<1000000000:=⟨(za3 _ 9 (by omega)).1 h.1,(zaf _ 9 (by omega)).1 h.2⟩
theorem zxe {x y:Int} {i j:Nat} (hij:0<i+j) (hx:x.natAbs<10^i) (hy:y.natAbs<10^j):digs (x*y)<=i+j:=by
 rw[za3 _ _ hij,yK,Nat.pow_add];exact Nat.mul_lt_mul'' hx hy
theorem z9x {x y i j:Nat} (hij:0<i+j) (hx:x<10^i) (hy:y<10^j):(zD (x*y)).length<=i+j:=by
 rw[zaf _ _ hij,Nat.pow_add];exact Nat.mul_lt_mul'' hx hy
instance (q:Rat):Decidable (zm0 q):=by unfold zm0;infer_instance
theorem zxb (q:Rat) (h:okN q) (w:zA):
 zC zF 276 #[St (numS q)] w λe w'=>(∃a b:Int,e=.returned (.tuple #[.int .i64 a,.int .i64 b,.bool (decide (zm0 q))]))/\Below w.heap.size w w':=by
 by_cases hn:zm0 q
 ·rw[decide_eq_true hn]
  exact(zu7 q h hn w).mono λe w' ⟨h1,h2⟩=>⟨⟨_,_,h1⟩,h2⟩
 ·rw[decide_eq_false hn]
  exact(yai q h hn w).mono λe w' ⟨h1,h2⟩=>⟨⟨_,_,h1⟩,h2⟩
end
section
open Go.RowKit Go.Shelf Lib Str Limb Geo
attribute [local go_sem] Oper.semAt_some
theorem ybd (a b c d:Int) (D:Nat) (hD:b*d=(D:Int)) (hD0:0<D) (ha:digs a<=300) (hb:digs b<=300) (hc:digs c<=300) (hd:digs d<=300) (hac:digs (a*c)<=300) (hbd:(zD D).length<=300) (w:zA) (hw:Wd w):
 qJ 332 #[St (zE a),St (zE b),St (zE c),St (zE d)] w (.tuple #[St (numS (Rat.divInt (a*c) (D:Int))),.int .i64 0]):=by
 have c1:=λW hW=>zxu a c b d ha hc hb hd hac (by rw[hD];unfold digs;rw[Int.natAbs_natCast];exact hbd) W hW;rw[hD,Str.zad] at c1;have c2:=λW hW=>z9w (a*c) D hD0 hac hbd W hW;have C1:=hid c1;have C2:=hid c2;have HW:=hid hw;clear c1 c2 hw ha hb hc hd hac hbd;generalize numS (Rat.divInt (a*c) (D:Int))=t at*
 generalize zE (a*c)=x at*
 generalize zD D=y at*
 generalize zE a=sa at*
 generalize zE b=sb at*
 generalize zE c=sc at*
 generalize zE d=sd at*
 go_enter Tryz.func332,Tryz.ntmps332;go_wp21;refine zzM (C1.out w HW.out) λw1 hb1=>?_;have HB1:=hid hb1;clear hb1;go_wp21;refine zzM (C2.out w1 (HW.out.below HB1.out)) λw2 hb2=>?_;have HB2:=qT HB1 hb2;clear hb2;go_wp21;go_ret2;exact⟨rfl,HB2.out⟩
theorem zzm (p q:Rat) (hp:okN p) (hq:okN q) (np:zm0 p) (nq:zm0 q) (w:zA) (hw:Wd w):
 qJ 209 #[St (numS p),St (numS q)] w (.tuple #[.int .i64 (cmpR p q),.int .i64 0]):=by
 rw[<-zim];have c0:=λW hW=>zx4 p q hp hq W hW;have c1:=λW=>zu7 p hp np W;have c2:=λW=>zu7 q hq nq W;obtain⟨b1,b2⟩:=zx6 np;obtain⟨b3,b4⟩:=zx6 nq;have m1:(p.num*q.den).natAbs<=999999998000000001:=by
  rw[yK,Int.natAbs_natCast];exact Nat.mul_le_mul (show p.num.natAbs<=999999999 by omega) (show q.den<=999999999 by omega)
 have m2:(q.num*p.den).natAbs<=999999998000000001:=by
  rw[yK,Int.natAbs_natCast];exact Nat.mul_le_mul (show q.num.natAbs<=999999999 by omega) (show p.den<=999999999 by omega)
 have e1:IntKind.i64.wrap (p.num*q.den)=p.num*q.den:=zI _ (by omega);have e2:IntKind.i64.wrap (q.num*p.den)=q.num*p.den:=zI _ (by omega);have CZ:=hid (show(p.num*q.den<q.num*p.den->cmpZ (p.num*q.den) (q.num*p.den)= -1)/\(q.num*p.den<p.num*q.den->cmpZ (p.num*q.den) (q.num*p.den)=1)/\(p.num*q.den=q.num*p.den->cmpZ (p.num*q.den) (q.num*p.den)=0) by
  unfold cmpZ;refine⟨λh=>?_,λh=>?_,λh=>?_⟩
  ·simp[h]
  ·have:¬p.num*q.den<q.num*p.den:=by omega
   simp[this,h]
  ·rw[h];simp)
 have C0:=hid c0;have C1:=hid c1;have C2:=hid c2;have HW:=hid hw;clear c0 c1 c2 np nq hp hq b1 b2 b3 b4 m1 m2 hw;generalize cmpZ (p.num*q.den) (q.num*p.den)=t at*
 generalize numS p=sp at*
 generalize numS q=sq at*
 generalize p.num=a at*
 generalize q.num=b at*
 generalize p.den=c at*
 generalize q.den=d at*
 go_enter Tryz.func209,Tryz.ntmps209;go_wp21;refine zzM (C0.out w HW.out) λw0 hb0=>?_;have HB0:=hid hb0;clear hb0;go_wp21;refine zzM (C1.out w0) λw1 hb1=>?_;have HB1:=qT HB0 hb1;clear hb1;go_wp21;refine zzM (C2.out w1) λw2 hb2=>?_;have HB2:=qT HB1 hb2;clear hb2;rcases Int.lt_trichotomy (a*d) (b*c) with h|h|h
 ·obtain rfl:=CZ.out.1 h
  go_wp21;go_ret2;exact⟨rfl,HB2.out⟩
 ·obtain rfl:=CZ.out.2.2 h
  have h1:¬a*d<b*c:=by omega
  have h2:¬b*c<a*d:=by omega
  clear h;go_wp21;go_ret2;exact⟨rfl,HB2.out⟩
 ·obtain rfl:=CZ.out.2.1 h
  have h1:¬a*d<b*c:=by omega
  go_wp21;go_ret2;exact⟨rfl,HB2.out⟩
theorem z7v (p q:Rat) (i j:Nat) (hi:0<i) (hj:0<j) (hij:i+j<=300) (sp:sz p i) (sq:sz q j) (hf:¬(zm0 p/\zm0 q)) (w:zA) (hw:Wd w):
 qJ 209 #[St (numS p),St (numS q)] w (.tuple #[.int .i64 (cmpR p q),.int .i64 0]):=by
 rw[<-zim];have hp:=z6i hi (by omega) sp;have hq:=z6i hj (by omega) sq;have c0:=λW hW=>zx4 p q hp hq W hW;have c1:=λW=>zxb p hp W;have c2:=λW=>zxb q hq W;have c3:=λW=>z2d p hp W;have c4:=λW=>z2d q hq W;have dg:∀k:Nat,digs (k:Int)=(zD k).length:=λk=>by unfold digs;rw[Int.natAbs_natCast]
 have x1:digs (p.num*q.den)<=i+j:=zxe (by omega) sp.1 (by rw[Int.natAbs_natCast];exact sq.2);have x3:digs (q.num*p.den)<=i+j:=by rw[Nat.add_comm];exact zxe (by omega) sq.1 (by rw[Int.natAbs_natCast];exact sp.2)
 have c5:=λW hW=>zxu p.num (q.den:Int) q.num (p.den:Int) hp.1 (by rw[dg];exact hq.2) hq.1 (by rw[dg];exact hp.2) (by omega) (by omega) W hW;have c6:=λW=>z7b (p.num*q.den) (q.num*p.den) (by omega) (by omega) W;rw[Str.zad,Str.zad] at c5;have hcase:(decide (zm0 p)=false)\/(decide (zm0 p)=true/\decide (zm0 q)=false):=by
  by_cases h1:zm0 p
  ·right;exact⟨decide_eq_true h1,decide_eq_false (λh2=>hf ⟨h1,h2⟩)⟩
  ·left;exact decide_eq_false h1
 have C0:=hid c0;have C1:=hid c1;have C2:=hid c2;have C3:=hid c3;have C4:=hid c4;have C5:=hid c5;have C6:=hid c6;have HW:=hid hw;clear c0 c1 c2 c3 c4 c5 c6 hw hp hq dg x1 x3 sp sq hf;generalize cmpZ (p.num*q.den) (q.num*p.den)=t at*
 generalize zE (p.num*q.den)=m1 at*
 generalize zE (q.num*p.den)=m2 at*
 generalize numS p=tp at*
 generalize numS q=tq at*
 generalize zE p.num=n1 at*
 generalize zE q.num=n2 at*
 generalize zD p.den=d1 at*
 generalize zD q.den=d2 at*
 generalize decide (zm0 p)=b1 at*
 generalize decide (zm0 q)=b2 at*
 go_enter Tryz.func209,Tryz.ntmps209;go_wp21;refine zzM (C0.out w HW.out) λw0 hb0=>?_;have HB0:=hid hb0;clear hb0;go_wp21;refine(C1.out w0).mono ?_;rintro e w1 ⟨⟨za,zb,rfl⟩,hb1⟩;have HB1:=qT HB0 hb1;clear hb1;go_wp21;refine(C2.out w1).mono ?_;rintro e w2 ⟨⟨zc,zd,rfl⟩,hb2⟩;have HB2:=qT HB1 hb2;clear hb2;rcases hcase with rfl|⟨rfl,rfl⟩<;>(
  go_wp21;refine zzM (C3.out w2) λw3 hb3=>?_;have HB3:=qT HB2 hb3;clear hb3;go_wp21;refine zzM (C4.out w3) λw4 hb4=>?_;have HB4:=qT HB3 hb4;clear hb4;go_wp21;refine zzM (C5.out w4 (HW.out.below HB4.out)) λw5 hb5=>?_;have HB5:=qT HB4 hb5;clear hb5;go_wp21;refine zzM (C6.out w5) λw6 hb6=>?_;have HB6:=qT HB5 hb6;clear hb6;go_wp21;go_ret2;exact⟨rfl,HB6.out⟩)
theorem z7w (p q:Rat) (i j:Nat) (hi:0<i) (hj:0<j) (hij:i+j<=300) (sp:sz p i) (sq:sz q j) (w:zA) (hw:Wd w):
 qJ 209 #[St (numS p),St (numS q)] w (.tuple #[.int .i64 (cmpR p q),.int .i64 0]):=by
 by_cases h:zm0 p/\zm0 q
 ·exact zzm p q (z6i hi (by omega) sp) (z6i hj (by omega) sq) h.1 h.2 w hw
 ·exact z7v p q i j hi hj hij sp sq h w hw
theorem z9e (p q:Rat) (_:0<q) {b:Nat} (hb:q.num=(b:Int)) (hb0:0<b):Rat.divInt (p.num*q.den) ((p.den*b:Nat):Int)=p/q:=by
 have e1:=Rat.num_divInt_den p;have e2:=Rat.num_divInt_den q;rw[Rat.divInt_eq_div] at e1 e2⊢
 conv=>rhs;rw[<-e1,<-e2,hb]
 have d1:((p.den:Int):Rat)≠0:=by have:=p.den_nz;exact_mod_cast this
 have d2:((q.den:Int):Rat)≠0:=by have:=q.den_nz;exact_mod_cast this
 have d3:((b:Int):Rat)≠0:=by have:b≠0:=by omega
                             exact_mod_cast this
 have g1:(((p.num*q.den:Int)):Rat)=(p.num:Rat)*((q.den:Int):Rat):=Rat.intCast_mul ..;have g2:((((p.den*b:Nat):Int)):Rat)=((p.den:Int):Rat)*((b:Int):Rat):=by rw[Int.natCast_mul];exact Rat.intCast_mul ..
 rw[g1,g2];generalize (p.num:Rat)=A at*
 generalize ((p.den:Int):Rat)=B at*
 generalize ((q.den:Int):Rat)=C at*
 generalize ((b:Int):Rat)=D at*
 grind
theorem z3n (p q:Rat) (hp:okN p) (hq:okN q) (np:zm0 p) (nq:zm0 q) (hq0:0<q) (w:zA) (hw:Wd w):
 qJ 319 #[St (numS p),St (numS q)] w (.tuple #[St (numS (p/q)),.int .i64 0]):=by
 have c0:=λW hW=>zx4 p q hp hq W hW;have c1:=λW=>zu7 p hp np W;have c2:=λW=>zu7 q hq nq W;obtain⟨b1,b2⟩:=zx6 np;obtain⟨b3,b4⟩:=zx6 nq;have hn0:0<q.num:=by
  have:=Rat.num_nonneg.2 (Rat.le_of_lt hq0);have:q.num≠0:=λe=>by have:=Rat.num_eq_zero.1 e;grind
  omega
 obtain⟨b,hb⟩:∃b:Nat,q.num=(b:Int):=⟨q.num.toNat,by omega⟩;have hb0:0<b:=by omega
 have pd:=p.den_pos;have qd:=q.den_pos;have m1:(p.num*q.den).natAbs<=999999998000000001:=by
  rw[yK,Int.natAbs_natCast];exact Nat.mul_le_mul (show p.num.natAbs<=999999999 by omega) (show q.den<=999999999 by omega)
 have m2:p.den*b<=999999998000000001:=Nat.mul_le_mul (show p.den<=999999999 by omega) (show b<=999999999 by omega);have hv:=z9e p q hq0 hb hb0;have hz:(numS q==[48])=false:=zsf (by grind);have e1:IntKind.i64.wrap (p.num*q.den)=p.num*q.den:=zI _ (by omega);have e2:IntKind.i64.wrap ((p.den:Int)*(b:Int))=((p.den*b:Nat):Int):=by rw[<-Int.natCast_mul];exact zI _ (by omega)
 have CQ:=hid (λW=>z2b (p.num*q.den) (p.den*b) (by omega) (Nat.mul_pos pd hb0) (by omega) W);rw[hv] at CQ;have hb1:¬(b:Int)<0:=by omega
 rw[hb] at c2;have C0:=hid c0;have C1:=hid c1;have C2:=hid c2;have HW:=hid hw;clear c0 c1 c2 np nq hp hq b1 b2 b3 b4 hw hv hn0 hq0 m1;generalize numS p=sp at*
 generalize numS (p/q)=sr at*
 generalize numS q=sq at*
 generalize p.num=a at*
 generalize p.den=c at*
 generalize q.den=d at*
 obtain⟨cb,hcb⟩:=zzX (c*b);rw[<-hcb] at e2 CQ;clear hcb hb m2;go_enter Tryz.func319,Tryz.ntmps319;go_wp2_with fail;refine zzM (C0.out w HW.out) λw0 hb0=>?_;have HB0:=hid hb0;clear hb0;go_wp2_with fail;refine zzM (C1.out w0) λw1 hb1=>?_;have HB1:=qT HB0 hb1;clear hb1;go_wp2_with fail;refine zzM (C2.out w1) λw2 hb2=>?_;have HB2:=qT HB1 hb2;clear hb2;go_wp2_with fail;refine zzM (CQ.out w2) λw3 hb3=>?_;have HB3:=qT HB2 hb3;clear hb3;go_wp2_with fail;go_ret2;exact⟨rfl,HB3.out⟩
theorem ybe (p q:Rat) (i j:Nat) (hi:0<i) (hj:0<j) (hij:i+j<=300) (sp:sz p i) (sq:sz q j) (hq0:0<q) (hf:¬(zm0 p/\zm0 q)) (w:zA) (hw:Wd w):
 qJ 319 #[St (numS p),St (numS q)] w (.tuple #[St (numS (p/q)),.int .i64 0]):=by
 have hn0:0<q.num:=by
  have:=Rat.num_nonneg.2 (Rat.le_of_lt hq0);have:q.num≠0:=λe=>by have:=Rat.num_eq_zero.1 e;grind
  omega
 obtain⟨b,hb⟩:∃b:Nat,q.num=(b:Int):=⟨q.num.toNat,by omega⟩;have hb0:0<b:=by omega
 rw[<-z9e p q hq0 hb hb0];have hp:=z6i hi (by omega) sp;have hq:=z6i hj (by omega) sq;have hz:(numS q==[48])=false:=zsf (by grind);have c0:=λW hW=>zx4 p q hp hq W hW;have c1:=λW=>zxb p hp W;have c2:=λW=>zxb q hq W;have c3:=λW=>z2d p hp W;have c4:=λW=>z2d q hq W;have dg:∀k:Nat,digs (k:Int)=(zD k).length:=λk=>by unfold digs;rw[Int.natAbs_natCast]
 have qb:q.num.natAbs=b:=by omega
 have sb:b<10^j:=by rw[<-qb];exact sq.1
 have x1:digs (p.num*(q.den:Int))<=i+j:=zxe (by omega) sp.1 (by rw[Int.natAbs_natCast];exact sq.2);have x3:(zD (p.den*b)).length<=i+j:=z9x (by omega) sp.2 sb;have hq1:=hq.1;rw[hb] at hq1;have c5:=λW hW=>ybd p.num (p.den:Int) (q.den:Int) (b:Int) (p.den*b) (by rw[Int.natCast_mul]) (Nat.mul_pos p.den_pos hb0) hp.1 (by rw[dg];exact hp.2) (by rw[dg];exact hq.2) hq1 (by omega) (by omega) W hW;rw[Str.zad,Str.zad,Str.zad] at c5;rw[hb,Str.zad] at c4;have hcase:(decide (zm0 p)=false)\/(decide (zm0 p)=true/\decide (zm0 q)=false):=by
  by_cases h1:zm0 p
  ·right;exact⟨decide_eq_true h1,decide_eq_false (λh2=>hf ⟨h1,h2⟩)⟩
  ·left;exact decide_eq_false h1
 have C0:=hid c0;have C1:=hid c1;have C2:=hid c2;have C3:=hid c3;have C4:=hid c4;have C5:=hid c5;have HW:=hid hw;clear c0 c1 c2 c3 c4 c5 hw hp hq dg x1 x3 sp sq hf hn0 hq0 qb sb hq1;generalize numS (Rat.divInt (p.num*(q.den:Int)) ((p.den*b:Nat):Int))=t at*
 generalize numS p=tp at*
 generalize numS q=tq at*
 generalize zE p.num=n1 at*
 generalize zD b=n2 at*
 generalize zD p.den=d1 at*
 generalize zD q.den=d2 at*
 generalize decide (zm0 p)=b1 at*
 generalize decide (zm0 q)=b2 at*
 clear hb hb0;go_enter Tryz.func319,Tryz.ntmps319;go_wp2_with fail;refine zzM (C0.out w HW.out) λw0 hb0=>?_;have HB0:=hid hb0;clear hb0;go_wp2_with fail;refine(C1.out w0).mono ?_;rintro e w1 ⟨⟨za,zb,rfl⟩,hb1⟩;have HB1:=qT HB0 hb1;clear hb1;go_wp2_with fail;refine(C2.out w1).mono ?_;rintro e w2 ⟨⟨zc,zd,rfl⟩,hb2⟩;have HB2:=qT HB1 hb2;clear hb2;rcases hcase with rfl|⟨rfl,rfl⟩<;>(
  go_wp2_with fail;refine zzM (C3.out w2) λw3 hb3=>?_;have HB3:=qT HB2 hb3;clear hb3;go_wp2_with fail;refine zzM (C4.out w3) λw4 hb4=>?_;have HB4:=qT HB3 hb4;clear hb4;go_wp2_with fail;refine zzM (C5.out w4 (HW.out.below HB4.out)) λw5 hb5=>?_;have HB5:=qT HB4 hb5;clear hb5;go_wp2_with fail;go_ret2;exact⟨rfl,HB5.out⟩)
theorem ybg (p q:Rat) (i j:Nat) (hi:0<i) (hj:0<j) (hij:i+j<=300) (sp:sz p i) (sq:sz q j) (hq0:0<q) (w:zA) (hw:Wd w):
 qJ 319 #[St (numS p),St (numS q)] w (.tuple #[St (numS (p/q)),.int .i64 0]):=by
 by_cases h:zm0 p/\zm0 q
 ·exact z3n p q (z6i hi (by omega) sp) (z6i hj (by omega) sq) h.1 h.2 hq0 w hw
 ·exact ybe p q i j hi hj hij sp sq hq0 h w hw
theorem zxz (p q:Rat) (sp:sz p 15) (sq:sz q 15) (hq0:0<q) (w:zA) (hw:Wd w):
 qJ 274 #[St (numS p),St (numS q)] w (St (numS (p/q))):=by
 have C:=hid (ybg p q 15 15 (by omega) (by omega) (by omega) sp sq hq0 w hw);clear sp sq hq0 hw;generalize numS (p/q)=z at*
 generalize numS p=x at*
 generalize numS q=y at*
 go_enter Tryz.func274,Tryz.ntmps274;go_wp2_with fail;refine zzM C.out λw1 hb=>?_;have HB:=hid hb;clear hb;go_wp2_with fail;go_ret;exact⟨rfl,HB.out⟩
theorem z4n (x y:Int) (hx:digs x<=300) (hy:digs y<=300) (hz:digs (x*y)<=300) (w:zA) (hw:Wd w):
 qJ 272 #[St (zE x),St (zE y)] w (St (zE (x*y))):=by
 have C:=hid (z4f x y hx hy hz w hw);clear hx hy hz hw;generalize zE (x*y)=z at*
 generalize zE x=a at*
 generalize zE y=b at*
 go_enter Tryz.func272,Tryz.ntmps272;go_wp2_with fail;refine zzM C.out λw1 hb=>?_;have HB:=hid hb;clear hb;go_wp2_with fail;go_ret;exact⟨rfl,HB.out⟩
theorem zx0 (p q:Rat) (sp:sz p 15) (sq:sz q 15) (w:zA) (hw:Wd w):
 qJ 131 #[St (numS p),St (numS q)] w (.int .i64 (cmpR p q)):=by
 have C:=hid (z7w p q 15 15 (by omega) (by omega) (by omega) sp sq w hw);clear sp sq hw;generalize cmpR p q=z at*
 generalize numS p=x at*
 generalize numS q=y at*
 go_enter Tryz.func131,Tryz.ntmps131;go_wp2_with fail;refine zzM C.out λw1 hb=>?_;have HB:=hid hb;clear hb;go_wp2_with fail;go_ret;exact⟨rfl,HB.out⟩
theorem zze (z:Int) (hz:digs z<=300) (w:zA):
 qJ 313 #[St (zE z)] w (.int .i64 (digs z:Int)):=by
 have hl:=zqo z;obtain⟨s,hs⟩:=zzX (⟨(zE z).toArray⟩:ByteArray);obtain⟨h0,h1, -⟩:=zvq z s hs;have hsz:s.size=(zE z).length:=by rw[hs];show(zE z).toArray.size=_;simp
 have hne:(s.toList !=[])=true:=by
  rw[bne_iff_ne,ByteArray.toList_eq];intro e;have:=congrArg List.length e;simp at this;have:s.size=0:=by rw[this];rfl
  omega
 have hne0:¬s.toList=[]:=by simpa using hne
 have hie:s.toList.isEmpty=false:=by simpa using hne0
 rw[show St (zE z)=.string s from by rw[hs]];by_cases hn:z<0
 ·rw[if_pos hn] at hl
  have hb:(((s[0]'h0).toNat:Int)==45)=true:=by rw[h1,decide_eq_true hn]
  have hr:IntKind.i64.wrap ((s.size:Int)-1)=(digs z:Int):=by rw[zI _ ⟨by omega,by omega⟩];omega
  clear h1 hl hs hz hn hsz hne;go_enter Tryz.func313,Tryz.ntmps313;go_wp2_with fail;go_ret;exact⟨rfl,zM _ _⟩
 ·rw[if_neg hn] at hl
  have hb:(((s[0]'h0).toNat:Int)==45)=false:=by rw[h1,decide_eq_false hn]
  have hr:(s.size:Int)=(digs z:Int):=by omega
  clear h1 hl hs hz hn hsz hne;go_enter Tryz.func313,Tryz.ntmps313;go_wp2_with fail;go_ret;exact⟨rfl,zM _ _⟩
theorem zvu (n:Nat) (hn:0<n) (w:zA):
 qJ 270 #[St (zD n)] w (.int .i64 1):=by
 obtain⟨s,hs⟩:=zzX (⟨(zD n).toArray⟩:ByteArray);obtain⟨h0,h1⟩:=z3m n s hs;have hz:(s.toList==[48])=false:=by
  rw[hs,ByteArray.toList_eq];exact(z6h n 0 (by omega) [48] zdj).1
 rw[show St (zD n)=.string s from by rw[hs]];clear hs hn;go_enter Tryz.func270,Tryz.ntmps270;go_wp2_with fail;go_ret;exact⟨rfl,zM _ _⟩
theorem zvv (p:Option Addr) (cap n:Nat) (q:Nat->Rat) (hn:n<=5000) (hq:∀i,i<n->okN (q i)/\sz (q i) 90) (w:zA) (HW:Hid (Wd w)) (HP:Hid (RowNums p n q w)):
 qJ 269 #[.slice p n cap] w (.int .i64 0):=by
 have D0:=hid (zM w.heap.size w);have HQ:=hid hq;clear hq;go_enter Tryz.func269,Tryz.ntmps269;go_wp2_with fail;go_loopw [3] (λi wr=>∃(k:Nat),k<=n/\i=.int .i64 (k:Int)/\Hid (qL w wr))
  (λi _=>n-(zL i).toNat)
 case atStart=>exact⟨0,zR _,rfl,D0⟩
 case round=>
  clear D0;obtain⟨k,hk,rfl,hB⟩:=hrel;by_cases hlt:k<n
  ·obtain⟨b,off,rfl,c0⟩:=(HP.out.keep (zac hB.out)) k hlt
   obtain⟨hok,hsz⟩:=HQ.out k hlt;have dd:=zok (k:=90) (by omega) hsz;have hd1:¬(90:Int)<(digs (q k).num:Int):=by have:=dd.1;omega
   have hd2:¬(90:Int)<(digs ((q k).den:Int):Int):=by rw[zd9];have:=dd.2;omega
   have HC:=hid (λW hW=>zft (q k) hok W hW);have HPt:=hid (λW hW=>znm (q k) hok W hW);have HS1:=hid (λW=>zze (q k).num hok.1 W);have HS2:=hid (λW=>zze ((q k).den:Int) (by rw[zd9];exact hok.2) W);rw[Str.zad] at HS2;clear hok hsz dd;generalize numS (q k)=x at*
   generalize zE (q k).num=y at*
   generalize zD (q k).den=z at*
   generalize (digs (q k).num:Int)=g1 at*
   generalize (digs ((q k).den:Int):Int)=g2 at*
   go_wp2_with fail;refine zzM (HC.out wr (HW.out.below hB.out)) λw2 hb2=>?_;have hB2:=hid (hB.out.trans (hb2.mono hB.out.size));have c1:w2.cell? ⟨b,off+k,none⟩=some (St x):=zai hb2 c0;clear hb2 HC c0 hB;go_wp2_with fail;refine zzM (HPt.out w2 (HW.out.below hB2.out)) λw3 hb3=>?_;have hB3:=hid (hB2.out.trans (hb3.mono hB2.out.size));clear hb3 HPt c1 hB2;go_wp2_with fail;refine zzM (HS1.out w3) λw4 hb4=>?_;have hB4:=hid (hB3.out.trans (hb4.mono hB3.out.size));clear hb4 HS1 hB3;go_wp2_with fail;refine zzM (HS2.out w4) λw5 hb5=>?_;have hB5:=hid (hB4.out.trans (hb5.mono hB4.out.size));clear hb5 HS2 hB4;go_wp2_with fail;go_roundw
   case rel=>exact⟨k+1,by omega,by go_num,hB5⟩
   case measure=>simp[zL];omega
  ·go_wp2_with fail
   go_ret;exact⟨rfl,hB.out⟩
theorem z4p {b j:Nat} (h:b=2^j):(b/2=0/\b=1)\/∃i,b/2=2^i/\2*(b/2)=b:=by
 cases j with
 |zero=>left;subst h;decide
 |succ i=>
  right;have:b/2=2^i:=by rw[h,Nat.pow_succ];omega
  exact⟨i,this,by rw[this,h,Nat.pow_succ];omega⟩
theorem z0r (n:Nat) (hn:n<1000000000000000000) (w:zA):
 qJ 317 #[.int .i64 (n:Int)] w (.int .i64 (isq n:Int)):=by
 have D0:=hid (zM w.heap.size w);obtain⟨s,hs⟩:=zzX (isq n);have HS:=hid (show ∀r,r*r<=n->n<(r+1)*(r+1)->r=s from λr h1 h2=>by
  obtain⟨k1,k2⟩:=zv0 n;rw[<-hs] at k1 k2;have a:r<s+1:=Nat.mul_self_lt_mul_self_iff.1 (Nat.lt_of_le_of_lt h1 k2);have b:s<r+1:=Nat.mul_self_lt_mul_self_iff.1 (Nat.lt_of_le_of_lt k1 h2);omega)
 rw[<-hs];clear hs;have HN:=hid hn;clear hn;go_enter Tryz.func317,Tryz.ntmps317;go_wp2_with fail;go_loopw [3,4] (λr b wr=>∃(rn bn:Nat),r=.int .i64 (rn:Int)/\b=.int .i64 (bn:Int)/\Hid (rn*rn<=n)/\Hid (bn=0->n<(rn+1)*(rn+1))/\Hid (0<bn->(∃j,bn=2^j)/\n<(rn+2*bn)*(rn+2*bn))/\Hid (rn+2*bn<=1073741824)/\Hid (qL w wr))
  (λ_ b _=>(zL b).toNat)
 case atStart=>
  refine⟨0,536870912,rfl,rfl,hid (by omega),hid (λh=>by omega),hid (λ_=>⟨⟨29,by decide⟩,?_⟩),hid (by omega),D0⟩;have:=HN.out;omega
 case round=>
  clear D0;obtain⟨rn,bn,rfl,rfl,h1,h2,h3,h4,hB⟩:=hrel;by_cases hb0:0<bn
  ·obtain⟨⟨j,hj⟩,h5⟩:=h3.out hb0
   have hb1:(0:Int)<(bn:Int):=by omega
   have h4':=h4.out;have hw1:IntKind.i64.wrap ((rn:Int)+(bn:Int))=((rn+bn:Nat):Int):=by rw[zI _ ⟨by omega,by omega⟩];omega
   have hmb:(rn+bn)*(rn+bn)<=1073741824*1073741824:=Nat.mul_le_mul (by omega) (by omega);have hw2:IntKind.i64.wrap (((rn+bn:Nat):Int)*((rn+bn:Nat):Int))=(((rn+bn)*(rn+bn):Nat):Int):=by rw[<-Int.natCast_mul];exact zI _ ⟨by omega,by omega⟩
   have hdv:((bn:Int)).tdiv 2=((bn/2:Nat):Int):=by rw[Int.tdiv_eq_ediv_of_nonneg (by omega)];rfl
   have hwd:IntKind.i64.wrap ((bn/2:Nat):Int)=((bn/2:Nat):Int):=zI _ ⟨by omega,by omega⟩;have HJ:=hid (z4p hj);have H5:=hid h5;have HHB:=hid (show bn/2<=bn by omega);clear hj h5 h4' hmb h3;obtain⟨s2,hs2⟩:=zzX ((rn+bn)*(rn+bn));rw[<-hs2] at hw2;have HS2:=hid hs2;obtain⟨sm,hsm⟩:=zzX (rn+bn);rw[<-hsm] at hw1 hw2;have HSM:=hid hsm;obtain⟨bh,hbh⟩:=zzX (bn/2);rw[<-hbh] at hdv hwd;have HBH:=hid hbh;clear hs2 hsm hbh;by_cases hle:s2<=n
   ·have hlI:(s2:Int)<=(n:Int):=by omega
    have HL:=hid hle;clear hle;go_wp2_with fail;go_roundw
    case rel=>
     refine⟨sm,bh,rfl,rfl,hid ?_,hid ?_,hid ?_,hid ?_,hB⟩
     ·rw[HSM.out,<-HS2.out];exact HL.out
     ·intro h
      rcases HJ.out with⟨k1,k2⟩|⟨i,k1,k2⟩
      ·have:=H5.out
       rw[k2] at this;rw[HSM.out,k2];exact this
      ·rw[HBH.out] at h;omega
     ·intro h
      rcases HJ.out with⟨k1,k2⟩|⟨i,k1,k2⟩
      ·rw[HBH.out] at h;omega
      ·refine⟨⟨i,by rw[HBH.out];exact k1⟩,?_⟩
       rw[HBH.out,k2,HSM.out,Nat.add_assoc,<-Nat.two_mul];exact H5.out
     ·have:=h4.out;have:=HSM.out;have:=HBH.out;omega
    case measure=>simp[zL];have:=HBH.out;omega
   ·have hlI:¬(s2:Int)<=(n:Int):=by omega
    have HL:=hid hle;clear hle;go_wp2_with fail;go_roundw
    case rel=>
     refine⟨rn,bh,rfl,rfl,h1,hid ?_,hid ?_,hid ?_,hB⟩
     ·intro h
      have:=HL.out;rw[HS2.out] at this;rcases HJ.out with⟨k1,k2⟩|⟨i,k1,k2⟩
      ·rw[k2] at this;omega
      ·rw[HBH.out] at h;omega
     ·intro h
      have:=HL.out;rw[HS2.out] at this;rcases HJ.out with⟨k1,k2⟩|⟨i,k1,k2⟩
      ·rw[HBH.out] at h;omega
      ·refine⟨⟨i,by rw[HBH.out];exact k1⟩,?_⟩
       rw[HBH.out,k2];omega
     ·have:=h4.out;have:=HBH.out;omega
    case measure=>simp[zL];have:=HBH.out;omega
  ·have hb1:¬(0:Int)<(bn:Int):=by omega
   have HE:=hid (HS.out rn h1.out (h2.out (by omega)));clear h1 h2 h3 h4;go_wp2_with fail;go_ret;exact⟨by rw[HE.out];rfl,hB.out⟩
theorem zvj (n:Nat) (hn:n<10^16) (w:zA) (hw:Wd w):
 qJ 273 #[St (zD n)] w (.tuple #[St (zD (isq n)),.bool (decide (isq n*isq n=n))]):=by
 have hl:(zD n).length<=16:=(zaf n 16 (by omega)).2 hn;have hAT:=λW=>znc (n:Int) (by rw[Str.zad];omega) W;rw[Str.zad] at hAT;have hNT:=λW=>z0r n (by omega) W;have hs1:=(zv0 n).1;have hsn:isq n<=n:=by
  rcases Nat.eq_zero_or_pos (isq n) with e|e
  ·omega
  ·have:=Nat.le_mul_of_pos_left (isq n) e;omega
 have hIT:=λW hW=>zb3 (isq n:Int) (by omega) (by omega) W hW;rw[Str.zad] at hIT;have hws:IntKind.i64.wrap ((isq n:Int)*(isq n:Int))=((isq n*isq n:Nat):Int):=by rw[<-Int.natCast_mul];exact zI _ ⟨by omega,by omega⟩
 have hq:(((isq n*isq n:Nat):Int)==(n:Int))=decide (isq n*isq n=n):=by
  rw[Bool.eq_iff_iff,beq_iff_eq,decide_eq_true_eq];omega
 have hsz:(⟨(zD n).toArray⟩:ByteArray).size<=17:=by show(zD n).toArray.size<=17;simp;omega
 have HAT:=hid hAT;have HNT:=hid hNT;have HIT:=hid hIT;have HW:=hid hw;clear hAT hNT hIT hw hs1 hsn hl hn;obtain⟨s,hs⟩:=zzX (⟨(zD n).toArray⟩:ByteArray);rw[show St (zD n)=.string s by rw[hs]];rw[<-hs] at hsz HAT;have hsI:(s.size:Int)<=17:=by omega
 clear hs hsz;generalize decide (isq n*isq n=n)=bb at*
 obtain⟨q2,hq2⟩:=zzX (isq n*isq n);rw[<-hq2] at hws hq;clear hq2;generalize zD (isq n)=y at*
 generalize isq n=r at*
 go_enter Tryz.func273,Tryz.ntmps273;go_wp2_with fail;refine zzM (HAT.out w) λw1 hb=>?_;have B1:=hid hb;clear hb;go_wp2_with fail;refine zzM (HNT.out w1) λw2 hb=>?_;have B2:=hid (B1.out.trans (hb.mono B1.out.size));clear hb;go_wp2_with fail;refine zzM (HIT.out w2 (HW.out.below B2.out)) λw3 hb=>?_;have B3:=hid (B2.out.trans (hb.mono B2.out.size));clear hb;go_wp2_with fail;go_ret2;exact⟨rfl,B3.out⟩
theorem zvi (q:Rat) (most k:Nat) (_:most<=200) (hok:okN q) (hk0:0<k) (hs:sz q k) (h8:k<=most) (w:zA) (hw:Wd w):
 qJ 206 #[St (numS q),.int .i64 (most:Int)] w (.bool false):=by
 have hc:=znm q hok w hw;have dd:=zok (k:=k) hk0 hs;obtain⟨s,hse⟩:=zzX (⟨(zE q.num).toArray⟩:ByteArray);obtain⟨h0,h1,h2⟩:=zvq q.num s hse;have hsz:s.size=(zE q.num).length:=by rw[hse];show(zE q.num).toArray.size=_;simp
 have hl:=zqo q.num;have hd2:¬(most:Int)<((⟨(zD q.den).toArray⟩:ByteArray).size:Int):=by
  have:(⟨(zD q.den).toArray⟩:ByteArray).size=(zD q.den).length:=by show(zD q.den).toArray.size=_;simp
  have:=dd.2;omega
 obtain⟨t,ht⟩:=zzX (⟨(zD q.den).toArray⟩:ByteArray);rw[<-ht] at hd2;rw[show St (zE q.num)=.string s by rw[hse],show St (zD q.den)=.string t by rw[ht]] at hc;have HC:=hid hc;have hs0:(0:Int)<(s.size:Int):=by omega
 clear hc hw ht;generalize numS q=x at*
 by_cases hn:q.num<0
 ·have hb:(((s[0]'h0).toNat:Int)==45)=true:=by rw[h1,decide_eq_true hn]
  have he:=h2 hn;have hd1:¬(most:Int)<((⟨(zD q.num.natAbs).toArray⟩:ByteArray).size:Int):=by
   have:(⟨(zD q.num.natAbs).toArray⟩:ByteArray).size=(zD q.num.natAbs).length:=by show(zD q.num.natAbs).toArray.size=_;simp
   have:=dd.1;unfold digs at this;omega
  generalize (⟨(zD q.num.natAbs).toArray⟩:ByteArray)=u at*
  have hs1:(1:Int)<=(s.size:Int):=by omega
  clear h1 h2 hl hse hsz dd hn;go_enter Tryz.func206,Tryz.ntmps206;go_wp2_with fail;refine zzM HC.out λw1 hb1=>?_;have HB:=hid hb1;clear hb1;go_wp2_with fail;go_ret;exact⟨by show Ending.returned (.bool (decide (most<u.size)||decide (most<t.size)))=_;rw[decide_eq_false (by omega),decide_eq_false (by omega)];rfl,HB.out⟩
 ·have hb:(((s[0]'h0).toNat:Int)==45)=false:=by rw[h1,decide_eq_false hn]
  have hd1:¬(most:Int)<(s.size:Int):=by
   rw[if_neg hn] at hl;have:=dd.1;omega
  clear h1 h2 hl hse hsz dd hn;go_enter Tryz.func206,Tryz.ntmps206;go_wp2_with fail;refine zzM HC.out λw1 hb1=>?_;have HB:=hid hb1;clear hb1;go_wp2_with fail;go_ret;exact⟨by show Ending.returned (.bool (decide (most<s.size)||decide (most<t.size)))=_;rw[decide_eq_false (by omega),decide_eq_false (by omega)];rfl,HB.out⟩
theorem z0s (w:zA):
 zC zF 314 #[] w λe w'=>∃A,e=.returned (.slice (some ⟨A,0,none⟩) 25 25)/\Below w.heap.size w w'/\∀i,i<25->w'.cell? ⟨A,i,none⟩=some (I (prN i)):=by
 go_enter Tryz.func314,Tryz.ntmps314;go_wp21;go_ret;refine⟨_,rfl,(zM _ w).alloc (zN _) _,λi hi=>?_⟩;rw[zJ (zG w _)]
 match i,hi with
 |0,_|1,_|2,_|3,_|4,_|5,_|6,_|7,_|8,_|9,_|10,_|11,_|12,_|13,_|14,_|15,_|16,_|17,_|18,_|19,_|20,_|21,_|22,_|23,_|24,_=>rfl
 |k+25,h=>exact absurd h (by omega)
structure SaS (N C L:Nat):Prop where
 out:zro prL (1,N)=(C,L)
theorem zyb (N C L:Nat) (HCL:SaS N C L) (hN0:0<N) (hN:N<10^16) (w:zA) (hw:Wd w):
 qJ 271 #[St (zD N)] w (.tuple #[St (zD L),St (zD C)]):=by
 have hl:(zD N).length<=16:=(zaf N 16 (by omega)).2 hN;have hAT:=λW=>znc (N:Int) (by rw[Str.zad];omega) W;rw[Str.zad] at hAT;have hsz:(⟨(zD N).toArray⟩:ByteArray).size<=17:=by show(zD N).toArray.size<=17;simp;omega
 have HAT:=hid hAT;have HW:=hid hw;have HN9:=hid (show N<10000000000000000 from hN);have HP:=hid (λW=>z0s W);clear hAT hw hl hN;obtain⟨s,hs⟩:=zzX (⟨(zD N).toArray⟩:ByteArray);rw[show St (zD N)=.string s by rw[hs]];rw[<-hs] at hsz HAT;have hsI:(s.size:Int)<=17:=by omega
 clear hs hsz;go_enter Tryz.func271,Tryz.ntmps271;go_wp21;refine(HP.out w).mono ?_;rintro e w0 ⟨A,rfl,hb,hc⟩;have B0:=hid hb;have HC0:=hid hc;clear hb hc HP;go_wp21;refine zzM (HAT.out w0) λw1 hb=>?_;have B1:=hid (B0.out.trans (hb.mono B0.out.size));have HC1:=hid (λi (hi:i<25)=>zai hb (HC0.out i hi));clear hb B0 HC0 HAT;go_wp21;go_loopw [5,7,8] (λlf c i wr=>∃k cN lN:Nat,k<=25/\c=I cN/\lf=I lN/\i=.int .i64 (k:Int)/\Hid (cN*cN*lN=N)/\Hid (NrmS N k (cN,lN))/\Hid (qL w wr)/\Hid (∀i,i<25->wr.cell? ⟨A,i,none⟩=some (I (prN i))))
  (λ_ _ i _=>25-(zL i).toNat)
 case atStart=>exact⟨0,1,N,by omega,rfl,rfl,rfl,hid (by omega),hid (NrmS.start N),B1,HC1⟩
 case round=>
  clear B1 HC1;obtain⟨k,cN,lN,hk,rfl,rfl,rfl,hE,hD,hB,hC⟩:=hrel;by_cases hlt:k<25
  ·obtain⟨g1,g2⟩:=zw4 k hlt
   have hcell:=hid (hC.out k hlt);obtain⟨p,hp⟩:=zzX (prN k);rw[<-hp] at g1 g2 hcell;have HPk:=hid hp;clear hp;have hwp:IntKind.i64.wrap ((p:Int)*(p:Int))=((p*p:Nat):Int):=by
    have:p*p<=97*97:=Nat.mul_le_mul g2 g2;rw[<-Int.natCast_mul];exact zI _ (by omega)
   have hpp:4<=p*p:=Nat.mul_le_mul g1 g1;obtain⟨pp,hpp2⟩:=zzX (p*p);rw[<-hpp2] at hwp hpp;have HPP:=hid hpp2;clear hpp2;have hkI:(k:Int)<25:=by omega
   go_wp21;go_loopw [5,7] (λlf c wr=>∃cN lN:Nat,c=I cN/\lf=I lN/\Hid (cN*cN*lN=N)/\Hid (NrmS N (k+1) (zkk p (cN,lN)))/\Hid (qL w wr)/\Hid (∀i,i<25->wr.cell? ⟨A,i,none⟩=some (I (prN i))))
    (λlf _ _=>(zL lf).toNat)
   case atStart=>exact⟨cN,lN,rfl,rfl,hE,hid (hD.out.enter hlt HPk.out),hB,hC⟩
   case round=>
    clear hE hD hB hcell hC;obtain⟨cN,lN,rfl,rfl,hE,hD,hB,hC⟩:=hrel;have hcell:=hC.out k hlt;rw[<-HPk.out] at hcell;have hl0:0<lN:=yS (λh=>by have:=hE.out;rw[h] at this;simp at this;omega);have hpp0:¬pp=0:=by omega
    have hle:lN<=N:=by rw[<-hE.out];exact Nat.le_mul_of_pos_left _ (yS (λh=>by have:=hE.out;rw[h] at this;simp at this;omega))
    have hmod:(lN:Int).tmod (pp:Int)=((lN%pp:Nat):Int):=rfl;have hdiv:(lN:Int).tdiv (pp:Int)=((lN/pp:Nat):Int):=rfl;have hwz:∀z:Nat,z<=lN->IntKind.i64.wrap (z:Int)=(z:Int):=λz hz=>zI _ (by have:=HN9.out;omega);have hwm:=hwz _ (Nat.mod_le lN pp);have hwd:=hwz _ (Nat.div_le_self lN pp);have hwq:IntKind.i64.wrap ((lN:Int)/(pp:Int))=((lN/pp:Nat):Int):=by rw[<-Int.natCast_ediv];exact hwd
    have HWQ:=hid hwq;clear hwz hwq;by_cases hd:pp∣lN
    ·have hm0:(((lN%pp:Nat):Int)==0)=true:=by rw[Nat.mod_eq_zero_of_dvd hd];rfl
     have hnext:=z1s (c:=cN) (l:=lN) (p:=p) (by rw[<-HPP.out];exact hd);rw[<-HPP.out,hE.out] at hnext;have hl1:0<lN/pp:=yS (λh=>by rw[h] at hnext;simp at hnext;omega);have hcp:cN*p<=N:=by
      rw[<-hnext];exact zO (Nat.le_mul_self _) (Nat.le_mul_of_pos_right _ hl1)
     have hwc:IntKind.i64.wrap ((cN:Int)*(p:Int))=((cN*p:Nat):Int):=by rw[<-Int.natCast_mul];exact zI _ (by have:=HN9.out;omega)
     have hlt2:lN/pp<lN:=Nat.div_lt_self hl0 (by omega);have hkeep:NrmS N (k+1) (zkk p (cN*p,lN/pp)):=by rw[HPP.out];exact hD.out.yes g1 hl0 (by rw[<-HPP.out];exact hd)
     have HNX:=hid hnext;have HK:=hid hkeep;have HL:=hid hlt2;clear hnext hkeep hd hlt2 hl1 hcp;go_wp2
     (refine wp_region_quiet_lit (by kernel_rfl) (by kernel_rfl) (WQ.out ?_);(repeat(first|(apply WQ.read (by rfl);(focus(rintro W ⟨n,rfl⟩;go_simp;try with_reducible rfl));try simp only[zzQ])|(apply WQ.skip (by rfl);try simp only[zzQ])));refine WQ.nil ?_;rintro _ ⟨nq,rfl⟩)
     go_wp2
     (refine wp_region_quiet_lit (by kernel_rfl) (by kernel_rfl) (WQ.out ?_);(repeat(first|(apply WQ.read (by rfl);(focus(rintro W ⟨n,rfl⟩;go_simp;try with_reducible rfl));try simp only[zzQ])|(apply WQ.skip (by rfl);try simp only[zzQ])));refine WQ.nil ?_;rintro _ ⟨nr,rfl⟩)
     go_wp2;go_roundw
     case rel=>exact⟨cN*p,lN/pp,by first|rfl|simp,by first|(rw[HWQ.out])|rfl|simp,HNX,HK,hid (zao (zao hB.out _) _),hC⟩
     case measure=>
      first|(rw[HWQ.out];show(lN/pp:Nat)<lN;exact HL.out)|(simp[zL];exact HL.out)
    ·have hm0:(((lN%pp:Nat):Int)==0)=false:=by
      rw[beq_eq_false_iff_ne];intro h;exact hd (Nat.dvd_of_mod_eq_zero (by omega))
     have hkeep:NrmS N (k+1) (cN,lN):=hD.out.no (by rw[<-HPP.out];exact hd);have HK:=hid hkeep;clear hkeep hd;go_wp2
     (refine wp_region_quiet_lit (by kernel_rfl) (by kernel_rfl) (WQ.out ?_);(repeat(first|(apply WQ.read (by rfl);(focus(rintro W ⟨n,rfl⟩;go_simp;try with_reducible rfl));try simp only[zzQ])|(apply WQ.skip (by rfl);try simp only[zzQ])));refine WQ.nil ?_;rintro _ ⟨nq,rfl⟩)
     go_wp2;go_roundw
     case rel=>exact⟨k+1,cN,lN,by omega,rfl,rfl,by go_num,hE,HK,hid (zao hB.out _),hC⟩
     case measure=>simp[zL];omega
  ·have hk25:k=25:=by omega
   have hc0:0<cN:=yS (λh=>by have:=hE.out;rw[h] at this;simp at this;omega);have hl0:0<lN:=yS (λh=>by have:=hE.out;rw[h] at this;simp at this;omega);have hle:lN<=N:=by rw[<-hE.out];exact Nat.le_mul_of_pos_left _ (Nat.mul_pos hc0 hc0)
   have hce:cN<=N:=by rw[<-hE.out];exact zO (Nat.le_mul_self _) (Nat.le_mul_of_pos_right _ hl0)
   have HNC:=hid (show(C,L)=(cN,lN) by
    have hd:=hD.out;rw[hk25] at hd;exact HCL.out.symm.trans hd.done)
   have HI1:=hid (λW hW=>zb3 (lN:Int) (by omega) (by have:=HN9.out;omega) W hW);have HI2:=hid (λW hW=>zb3 (cN:Int) (by omega) (by have:=HN9.out;omega) W hW);rw[Str.zad] at HI1 HI2;clear hc0 hl0 hle hce hD HCL hE hC hk25;go_wp21;refine zzM (HI1.out wr (HW.out.below hB.out)) λw2 hb=>?_;have B2:=hid (hB.out.trans (hb.mono hB.out.size));clear hb;go_wp21;refine zzM (HI2.out w2 (HW.out.below B2.out)) λw3 hb=>?_;have B3:=hid (B2.out.trans (hb.mono B2.out.size));clear hb;obtain⟨e1,e2⟩:=Prod.mk.inj HNC.out;subst e1;subst e2;clear HNC;go_wp21;go_ret2;exact⟨rfl,B3.out⟩
theorem z5m (A:Nat) (t:TypeId) (a:Rat) (W:zA) (h:W.heap[A]? =some (.cells #[St (numS a)] t (0,0))):RowNums (some ⟨A,0,none⟩) 1 (λ_=>a) W:=λi hi=>by
 refine⟨_,_,rfl,?_⟩;rw[zJ h]
 match i,hi with
 |0,_=>rfl
theorem z5n (A:Nat) (t:TypeId) (a b:Rat) (W:zA) (h:W.heap[A]? =some (.cells #[St (numS a),St (numS b)] t (0,0))):RowNums (some ⟨A,0,none⟩) 2 (λi=>if i=0 then a else b) W:=λi hi=>by
 refine⟨_,_,rfl,?_⟩;rw[zJ h]
 match i,hi with
 |0,_|1,_=>rfl
theorem zzo (n c l k q m:List UInt8) (is:Bool)
 (CK:Hid (∀(W:zA) (A:Nat),Wd W->W.heap[A]? =some (.cells #[St n] 30 (0,0))->qJ 269 #[.slice (some ⟨A,0,none⟩) 1 1] W (.int .i64 0)))
 (SG:Hid (∀W:zA,qJ 270 #[St n] W (.int .i64 1)))
 (PT:Hid (qK 207 #[St n] (.tuple #[St n,.string ⟨#[49]⟩,.int .i64 0])))
 (T1:Hid (qK 272 #[St n,.string ⟨#[49]⟩] (St n)))
 (RD:Hid (qK 271 #[St n] (.tuple #[St l,St c])))
 (SQ:Hid (qK 273 #[St l] (.tuple #[St k,.bool is])))
 (T2:Hid (is=true->qK 272 #[St c,St k] (St m)))
 (QU:Hid (qK 274 #[St (if is=true then m else c),.string ⟨#[49]⟩] (St q)))
 (w:zA) (HW:Hid (Wd w)):
 qJ 208 #[St n] w (.tuple #[St q,(if is=true then .string ⟨#[49]⟩ else St l),.int .i64 0]):=by
 obtain⟨v1,hv⟩:=zzX (w.alloc (.cells #[St n] 30));have a1:qL w v1:=by rw[hv];exact(zM _ w).alloc (zN _) _
 have A1:v1.heap[w.heap.size]? =some (.cells #[St n] 30 (0,0)):=by rw[hv];exact zG w _
 have HCK:=hid (CK.out v1 w.heap.size (HW.out.below a1) A1);have B0:=hid a1;have HV:=hid hv.symm;clear hv a1 A1 CK;go_enter Tryz.func208,Tryz.ntmps208;go_wp21;have h9:=HV.out;rw[show w.alloc (.cells #[.string ⟨n.toArray⟩] 30)=v1 from h9];clear h9 HV;refine zzM HCK.out λw1 hb=>?_;have B1:=hid (B0.out.trans (hb.mono B0.out.size));clear hb HCK B0;go_wp21;refine zzM (SG.out w1) λw2 hb=>?_;have B2:=hid (B1.out.trans (hb.mono B1.out.size));clear hb B1;go_wp21;refine zzM (SG.out w2) λw3 hb=>?_;have B3:=hid (B2.out.trans (hb.mono B2.out.size));clear hb B2 SG;go_wp21;refine zzM (PT.out w3 (HW.out.below B3.out)) λw4 hb=>?_;have B4:=hid (B3.out.trans (hb.mono B3.out.size));clear hb B3 PT;go_wp21;refine zzM (T1.out w4 (HW.out.below B4.out)) λw5 hb=>?_;have B5:=hid (B4.out.trans (hb.mono B4.out.size));clear hb B4 T1;go_wp21;refine zzM (RD.out w5 (HW.out.below B5.out)) λw6 hb=>?_;have B6:=hid (B5.out.trans (hb.mono B5.out.size));clear hb B5 RD;go_wp21;refine zzM (SQ.out w6 (HW.out.below B6.out)) λw7 hb=>?_;have B7:=hid (B6.out.trans (hb.mono B6.out.size));clear hb B6 SQ;cases is
 ·have HQ:=hid (λW hW=>QU.out W hW)
  rw[if_neg (by simp)] at HQ;clear QU T2;go_wp21;refine zzM (HQ.out w7 (HW.out.below B7.out)) λw8 hb=>?_;have B8:=hid (B7.out.trans (hb.mono B7.out.size));clear hb;go_wp21;go_ret3;exact⟨rfl,B8.out⟩
 ·have HQ:=hid (λW hW=>QU.out W hW)
  have HT:=hid (T2.out rfl);rw[if_pos rfl] at HQ;clear QU T2;go_wp21;refine zzM (HT.out w7 (HW.out.below B7.out)) λw8 hb=>?_;have B8:=hid (B7.out.trans (hb.mono B7.out.size));clear hb;go_wp21;refine zzM (HQ.out w8 (HW.out.below B8.out)) λw9 hb=>?_;have B9:=hid (B8.out.trans (hb.mono B8.out.size));clear hb;go_wp21;go_ret3;exact⟨rfl,B9.out⟩
theorem zzf {p:Nat}:∀(f:Nat) (x:Nat×Nat),(zlu p f x).1*(zlu p f x).1*(zlu p f x).2=x.1*x.1*x.2
 |0,_=>rfl
 |f+1,x=>by
  unfold zlu;split
  ·rw[zzf f]
   exact z1s (by assumption)
  ·rfl
theorem zvw:∀(l:List Nat) (x:Nat×Nat),(zro l x).1*(zro l x).1*(zro l x).2=x.1*x.1*x.2
 |[],_=>rfl
 |p::l,x=>by
  show(zro l (zkk p x)).1*(zro l (zkk p x)).1*(zro l (zkk p x)).2=_;rw[zvw l];exact zzf _ _
theorem zlj {n:Nat} (h:n<10^15):okN (n:Rat)/\sz (n:Rat) 15/\digs ((n:Int))<=15:=by
 have hl:(zD n).length<=15:=(zaf n 15 (by omega)).2 h;have s:=zrg (k:=15) (by omega) hl;exact⟨z6i (by omega) (by omega) s,s,by rw[zd9];exact hl⟩
theorem z0x (n:Nat) (hn0:0<n) (hn:n<10^15) (w:zA) (hw:Wd w):
 qJ 208 #[St (zD n)] w (.tuple #[St (zD (zn7 n).1),St (zD (zn7 n).2),.int .i64 0]):=by
 obtain⟨C,L,hCL⟩:∃C L,zro prL (1,n)=(C,L):=by
  generalize zro prL (1,n)=x;exact⟨x.1,x.2,rfl⟩
 have d1:zD 1=[49]:=by rw[zae (by omega)];rfl
 obtain⟨o1,o2,o3⟩:=zlj hn;have hinv:C*C*L=n:=by
  have:=zvw prL (1,n);rw[hCL] at this;simpa using this
 have hC0:0<C:=yS (λh=>by rw[h] at hinv;simp at hinv;omega);have hL0:0<L:=yS (λh=>by rw[h] at hinv;simp at hinv;omega);have hLn:L<=n:=by rw[<-hinv];exact Nat.le_mul_of_pos_left _ (Nat.mul_pos hC0 hC0)
 have hCn:C<=n:=by rw[<-hinv];exact zO (Nat.le_mul_self _) (Nat.le_mul_of_pos_right _ hL0)
 have hsq:=(zv0 L).1;have hsL:isq L<=L:=by
  rcases Nat.eq_zero_or_pos (isq L) with e|e
  ·omega
  ·have:=Nat.le_mul_of_pos_left (isq L) e;omega
 have hm:isq L*isq L=L->C*isq L<=n:=λh=>by
  have h2:(C*isq L)*(C*isq L)=n:=by
   rw[<-hinv]
   conv=>rhs;rw[<-h]
   generalize isq L=s;ac_rfl
  rw[<-h2];exact Nat.le_mul_self _
 have one:sz (1:Rat) 15:=(zlj (n:=1) (by omega)).2.1;have quo:∀k:Nat,k<=n->∀W,Wd W->qJ 274 #[St (zD k),.string ⟨#[49]⟩] W (St (zD k)):=λk hk W hW=>by
  have:=zxz (k:Rat) 1 (zlj (Nat.lt_of_le_of_lt hk hn)).2.1 one (by decide) W hW;rw[show(k:Rat)/1=(k:Rat) by grind,zhe,zfc] at this;exact this
 have mul:∀a b:Nat,a<=n->b<=n->a*b<=n->∀W,Wd W->qJ 272 #[St (zD a),St (zD b)] W (St (zD (a*b))):=λa b ha hb hab W hW=>by
  have hd:∀x:Nat,x<=n->digs (x:Int)<=300:=λx hx=>by
   have:=(zlj (Nat.lt_of_le_of_lt hx hn)).2.2;omega
  have:=z4n (a:Int) (b:Int) (hd a ha) (hd b hb) (by rw[<-Int.natCast_mul];exact hd _ hab) W hW;rw[<-Int.natCast_mul,Str.zad,Str.zad,Str.zad] at this;exact this
 have main:=zzo (zD n) (zD C) (zD L) (zD (isq L)) (zD (zn7 n).1) (zD (C*isq L)) (decide (isq L*isq L=L))
  (hid λW A hW hA=>zvv (some ⟨A,0,none⟩) 1 1 (λ_=>(n:Rat)) (by omega) (λi _=>⟨o1,o2.mono (by omega)⟩) W (hid hW) (hid (z5m A _ (n:Rat) W (by rw[zhe];exact hA))))
  (hid λW=>zvu n hn0 W)
  (hid λW hW=>by
    have:=znm (n:Rat) o1 W hW;rw[zhe,show(n:Rat).num=(n:Int) from rfl,show(n:Rat).den=1 from rfl,Str.zad,d1] at this;exact this)
  (hid λW hW=>by
    have:=mul n 1 (zN _) hn0 (by omega) W hW;rw[Nat.mul_one,d1] at this;exact this)
  (hid λW hW=>zyb n C L ⟨hCL⟩ hn0 (by omega) W hW)
  (hid λW hW=>zvj L (by omega) W hW)
  (hid λh W hW=>mul C (isq L) hCn (by omega) (hm (of_decide_eq_true h)) W hW)
  (hid λW hW=>?_) w (hid hw)
 ·have hnc:zn7 n=if isq L*isq L=L then(C*isq L,1) else(C,L):=by unfold zn7;rw[hCL]
  have e2:(if decide (isq L*isq L=L)=true then Value.string ⟨#[49]⟩ else St (zD L))=St (zD (zn7 n).2):=by
   rw[hnc];by_cases h:isq L*isq L=L
   ·rw[if_pos (decide_eq_true h),if_pos h];show _=St (zD 1);rw[d1]
   ·rw[if_neg (by simpa using h),if_neg h]
  rw[e2] at main;exact main
 ·have hnc:zn7 n=if isq L*isq L=L then(C*isq L,1) else(C,L):=by unfold zn7;rw[hCL]
  rw[hnc];by_cases h:isq L*isq L=L
  ·rw[if_pos (decide_eq_true h),if_pos h];exact quo _ (hm h) W hW
  ·rw[if_neg (by simpa using h),if_neg h];exact quo _ hCn W hW
end
end Go.Proofs.YtmeekcnlacckfaaGreatDoor
