/- The reference's way to see how two segments meet, and that it is the same. Plain Lean: no program stands in this text. -/
import Derived.Test.YthfpmfdiamldoaaGreatDoorG21
set_option maxRecDepth 100000
set_option maxHeartbeats 8000000
open Go renaming World → zA
open Go.Lib renaming decDigits → zD
open Go.World renaming alloc_heap_new → zG, size_alloc → zH
open Go.Joins renaming cell_of_block → zJ
open Go.RowKit.Below renaming refl → zM
open Nat renaming le_refl → zN
namespace Go.Proofs.YthfpmfdiamldoaaGreatDoor.Geo
theorem zmz {a b:Rat} (ha:0<a) (hb:0<b):0<a*b:=Rat.mul_pos ha hb
theorem zzl {a b:Rat} (ha:0<a) (hb:b<0):a*b<0:=by
 have:=Rat.mul_pos ha (show 0< -b by grind);grind
theorem zw9 {a b:Rat} (ha:a<0) (hb:0<b):a*b<0:=by
 have:=Rat.mul_pos (show 0< -a by grind) hb;grind
theorem z1x {a b:Rat} (ha:a<0) (hb:b<0):0<a*b:=by
 have:=Rat.mul_pos (show 0< -a by grind) (show 0< -b by grind);grind
theorem zdq (a b:Rat):cmpR a b=cmpR (a-b) 0:=zmx _ _ _ _ (by grind)
theorem zrl (a b:Rat):cmpR (a*b) 0=cmpR a 0*cmpR b 0:=by
 rcases zaw a 0 with⟨h1,e1⟩|⟨h1,e1⟩|⟨h1,e1⟩<;>rcases zaw b 0 with⟨h2,e2⟩|⟨h2,e2⟩|⟨h2,e2⟩<;>rw[e1,e2]
 ·have:=z1x h1 h2;have:=zaw (a*b) 0;grind
 ·subst h2;rw[Rat.mul_zero,zeu];rfl
 ·have:=zw9 h1 h2;have:=zaw (a*b) 0;grind
 ·subst h1;rw[Rat.zero_mul,zeu];rfl
 ·subst h1;rw[Rat.zero_mul,zeu];rfl
 ·subst h1;rw[Rat.zero_mul,zeu];rfl
 ·have:=zzl h1 h2;have:=zaw (a*b) 0;grind
 ·subst h2;rw[Rat.mul_zero,zeu];rfl
 ·have:=zmz h1 h2;have:=zaw (a*b) 0;grind
theorem zcl (a:Rat):cmpR a 0= -1\/cmpR a 0=0\/cmpR a 0=1:=by have:=zaw a 0;grind
def onR (a b p:Pt):Prop:=cmpR p.x a.x*cmpR p.x b.x<=0/\cmpR p.y a.y*cmpR p.y b.y<=0
instance (a b p:Pt):Decidable (onR a b p):=by unfold onR;infer_instance
def cr (a b c:Pt):Rat:=(b.x-a.x)*(c.y-a.y)-(b.y-a.y)*(c.x-a.x)
theorem zgk (a b c:Pt):turn a b c=cmpR (cr a b c) 0:=zdq _ _
theorem zgy {a b c:Pt}:turn a b c=0↔cr a b c=0:=by rw[zgk,zgv]
theorem z0x {u v R S:Int} (hu:u= -1\/u=0\/u=1) (hv:v= -1\/v=0\/v=1) (hR:R= -1\/R=0\/R=1) (hS:S= -1\/S=0\/S=1) (h:u*S=v*R) (hRS:R≠0\/S≠0) (hle:R*S<=0):u*v<=0:=by
 rcases hu with rfl|rfl|rfl<;>rcases hv with rfl|rfl|rfl<;>rcases hR with rfl|rfl|rfl<;>rcases hS with rfl|rfl|rfl<;>omega
theorem z0y {u v R S:Int} (hu:u= -1\/u=0\/u=1) (hv:v= -1\/v=0\/v=1) (hR:R= -1\/R=0\/R=1) (hS:S= -1\/S=0\/S=1) (h:u*S=v*R) (hle:u*v<=0) (h0:0<R*S):u=0/\v=0:=by
 rcases hu with rfl|rfl|rfl<;>rcases hv with rfl|rfl|rfl<;>rcases hR with rfl|rfl|rfl<;>rcases hS with rfl|rfl|rfl<;>omega
theorem zmc {a b c d:Pt} (h0:turn a b c=0) (hq:turn c d a≠0\/turn c d b≠0) (h:turn c d a*turn c d b<=0):onR a b c:=by
 rw[zgy] at h0
 rw[zgk,zgk] at h hq
 have e1:(c.x-a.x)*cr c d b=(c.x-b.x)*cr c d a:=by unfold cr at*;grind
 have e2:(c.y-a.y)*cr c d b=(c.y-b.y)*cr c d a:=by unfold cr at*;grind
 have f1:=congrArg (cmpR · 0) e1
 have f2:=congrArg (cmpR · 0) e2
 simp only[zrl] at f1 f2
 unfold onR
 rw[zdq c.x,zdq c.x,zdq c.y,zdq c.y]
 exact⟨z0x (zcl _) (zcl _) (zcl _) (zcl _) f1 hq h,z0x (zcl _) (zcl _) (zcl _) (zcl _) f2 hq h⟩
theorem zgr {a b c d:Pt} (h0:turn a b c=0) (h:onR a b c):turn c d a*turn c d b<=0:=by
 rw[zgy] at h0
 rw[zgk,zgk]
 have e1:(c.x-a.x)*cr c d b=(c.x-b.x)*cr c d a:=by unfold cr at*;grind
 have e2:(c.y-a.y)*cr c d b=(c.y-b.y)*cr c d a:=by unfold cr at*;grind
 have f1:=congrArg (cmpR · 0) e1
 have f2:=congrArg (cmpR · 0) e2
 simp only[zrl] at f1 f2
 unfold onR at h
 rw[zdq c.x,zdq c.x,zdq c.y,zdq c.y] at h
 rcases Int.lt_or_le 0 (cmpR (cr c d a) 0*cmpR (cr c d b) 0) with hp|hp
 ·obtain⟨g1,g2⟩:=z0y (zcl _) (zcl _) (zcl _) (zcl _) f1 h.1 hp
  obtain⟨g3,g4⟩:=z0y (zcl _) (zcl _) (zcl _) (zcl _) f2 h.2 hp
  rw[zgv] at g1 g2 g3 g4
  have:cr c d a=0:=by unfold cr;grind
  rw[this,zeu] at hp
  omega
 ·exact hp
theorem zrm {a b c d:Pt} (h0:turn a b c=0) (h:turn a b d≠0):turn c d a≠0\/turn c d b≠0:=by
 rcases Int.decEq (turn c d a) 0 with h1|h1
 ·exact .inl h1
 ·refine .inr λh2=>h ?_
  rw[zgy] at*
  unfold cr at*
  grind
def uniq (P:Pt->Bool):List Pt->List Pt->List Pt
 |acc,[]=>acc
 |acc,x::r=>uniq P (if P x&&!acc.contains x then acc++[x] else acc) r
theorem zla (P:Pt->Bool):∀(l acc:List Pt),acc.Nodup->(uniq P acc l).Nodup/\∀y,y∈uniq P acc l↔y∈acc\/(y∈l/\P y=true)
 |[],acc,h=>⟨h,λy=>by simp[uniq]⟩
 |x::r,acc,h=>by
  rw[uniq]
  by_cases hp:(P x&&!acc.contains x)=true
  ·rw[if_pos hp]
   simp only[Bool.and_eq_true,Bool.not_eq_true',List.contains_eq_mem,decide_eq_false_iff_not] at hp
   obtain⟨h1,h2⟩:=zla P r (acc++[x]) (by rw[List.nodup_append];exact⟨h,by simp,λa ha b hb=>by simp at hb;subst hb;exact λe=>hp.2 (e▸ha)⟩)
   refine⟨h1,λy=>?_⟩
   rw[h2]
   simp only[List.mem_append,List.mem_cons,List.not_mem_nil,or_false]
   constructor
   ·rintro((h|rfl)|h)
    ·exact .inl h
    ·exact .inr ⟨.inl rfl,hp.1⟩
    ·exact .inr ⟨.inr h.1,h.2⟩
   ·rintro(h|⟨rfl|h,k⟩)
    ·exact .inl (.inl h)
    ·exact .inl (.inr rfl)
    ·exact .inr ⟨h,k⟩
  ·rw[if_neg hp]
   obtain⟨h1,h2⟩:=zla P r acc h
   refine⟨h1,λy=>?_⟩
   rw[h2]
   simp only[List.mem_cons]
   constructor
   ·rintro(h|h)
    ·exact .inl h
    ·exact .inr ⟨.inr h.1,h.2⟩
   ·rintro(h|⟨rfl|h,k⟩)
    ·exact .inl h
    ·refine .inl ?_
     simp only[Bool.and_eq_true,Bool.not_eq_true',List.contains_eq_mem,decide_eq_false_iff_not,not_and,Decidable.not_not] at hp
     exact hp k
    ·exact .inr ⟨h,k⟩
def znt (a b c d:Pt):Int:=
 if turn a b c=0/\turn a b d=0/\turn c d a=0/\turn c d b=0 then
  min 2 ((uniq (λx=>decide (onR a b x)&&decide (onR c d x)&&decide (turn a b x=0)&&decide (turn c d x=0)) [] [a,b,c,d]).length:Int)
 else if turn a b c*turn a b d<=0/\turn c d a*turn c d b<=0/\(turn a b c≠0\/onR a b c)/\(turn a b d≠0\/onR a b d) then 1
 else if turn a b c=0/\onR a b c\/turn a b d=0/\onR a b d\/turn c d a=0/\onR c d a\/turn c d b=0/\onR c d b then 1
 else 0
def le (p q:Pt):Prop:=ordP p q<=0
theorem zlb {a b x:Pt} (h:turn a b x=0):onR a b x↔le (low a b) x/\le x (high a b):=by
 rw[zgy] at h
 have e1:(b.x-a.x)*(x.y-a.y)=(b.y-a.y)*(x.x-a.x):=by unfold cr at h;grind
 have e2:(b.x-a.x)*(x.y-b.y)=(b.y-a.y)*(x.x-b.x):=by unfold cr at h;grind
 have f1:=congrArg (cmpR · 0) e1
 have f2:=congrArg (cmpR · 0) e2
 simp only[zrl,<-zdq] at f1 f2
 unfold onR le low high
 have k1:=zaw x.x a.x;have k2:=zaw x.x b.x;have k3:=zaw x.y a.y;have k4:=zaw x.y b.y
 have s1:=zet a.x x.x;have s2:=zet b.x x.x;have s3:=zet a.y x.y;have s4:=zet b.y x.y
 have s5:=zet a.x b.x;have s6:=zet a.y b.y
 unfold ordP
 rcases zaw a.x b.x with⟨p1,p2⟩|⟨p1,p2⟩|⟨p1,p2⟩<;>rcases zaw a.y b.y with⟨q1,q2⟩|⟨q1,q2⟩|⟨q1,q2⟩<;>clear e1 e2 h
 all_goals
  rw[p2] at s5
  rw[q2] at s6
  rw[s5,s6] at f1 f2
  simp[p2,q2]
  rcases k1 with⟨k1,l1⟩|⟨k1,l1⟩|⟨k1,l1⟩<;>rcases k2 with⟨k2,l2⟩|⟨k2,l2⟩|⟨k2,l2⟩<;>simp only[l1,l2] at s1 s2 f1 f2⊢ <;>first|(exfalso;grind;done)|grind
theorem le_trans {p q r:Pt} (h:le p q) (k:le q r):le p r:=by unfold le at*;have:=zas p q;have:=zas q r;have:=zas p r;grind
theorem le_antisymm {p q:Pt} (h:le p q) (k:le q p):p=q:=by unfold le at*;have:=zas p q;have:=zas q p;grind
theorem zhp (p:Pt):le p p:=by unfold le;rw[zgw];exact Int.le_refl _
def maxP (p q:Pt):Pt:=if ordP q p>0 then q else p
def minP (p q:Pt):Pt:=if ordP q p<0 then q else p
theorem zt6 {p q x:Pt}:le (maxP p q) x↔le p x/\le q x:=by
 unfold maxP le;have:=zas p q;have:=zas q p;have:=zas p x;have:=zas q x;grind
theorem zt7 {p q x:Pt}:le x (minP p q)↔le x p/\le x q:=by
 unfold minP le;have:=zas p q;have:=zas q p;have:=zas x p;have:=zas x q;grind
theorem z1y {l:List Pt} {x y:Pt} (hx:x∈l) (hy:y∈l) (hne:x≠y):2<=l.length:=by
 match l,hx,hy with
 |[z],hx,hy=>simp at hx hy;exact absurd (hx.trans hy.symm) hne
 |_::_::_,_,_=>simp
theorem z1z {l:List Pt} {x:Pt} (hx:x∈l) (hd:l.Nodup) (h:∀y∈l,y=x):l.length=1:=by
 match l,hx with
 |[z],_=>rfl
 |z::y::r,_=>
  have h1:=h z (by simp)
  have h2:=h y (by simp)
  subst h1;subst h2
  simp at hd
theorem zp8 {a b c d:Pt} (h1:turn a b c=0) (h2:turn a b d=0) (h3:turn c d a=0) (h4:turn c d b=0):
 min 2 ((uniq (λx=>decide (onR a b x)&&decide (onR c d x)&&decide (turn a b x=0)&&decide (turn c d x=0)) [] [a,b,c,d]).length:Int)=1-ordP (maxP (low a b) (low c d)) (minP (high a b) (high c d)):=by
 obtain⟨hn,hm⟩:=zla (λx=>decide (onR a b x)&&decide (onR c d x)&&decide (turn a b x=0)&&decide (turn c d x=0)) [a,b,c,d] [] (by simp)
 generalize hL:uniq _ [] [a,b,c,d]=L at*
 have hz:∀y∈[a,b,c,d],turn a b y=0/\turn c d y=0:=by
  intro y hy
  simp at hy
  rcases hy with rfl|rfl|rfl|rfl
  ·exact⟨zcz _ _,h3⟩
  ·exact⟨zc8 _ _,h4⟩
  ·exact⟨h1,zcz _ _⟩
  ·exact⟨h2,zc8 _ _⟩
 have hm':∀y,y∈L↔y∈[a,b,c,d]/\le (maxP (low a b) (low c d)) y/\le y (minP (high a b) (high c d)):=by
  intro y
  rw[hm y]
  simp only[List.not_mem_nil,false_or]
  refine and_congr_right λhy=>?_
  obtain⟨z1,z2⟩:=hz y hy
  simp only[Bool.and_eq_true,decide_eq_true_eq,z1,z2,and_true,zlb z1,zlb z2,zt6,zt7]
  constructor
  ·rintro⟨⟨a1,a2⟩,a3,a4⟩;exact⟨⟨a1,a3⟩,a2,a4⟩
  ·rintro⟨⟨a1,a3⟩,a2,a4⟩;exact⟨⟨a1,a2⟩,a3,a4⟩
 have hf:maxP (low a b) (low c d)∈[a,b,c,d]:=by
  have l1:low a b=a\/low a b=b:=by unfold low;split<;>simp
  have l2:low c d=c\/low c d=d:=by unfold low;split<;>simp
  have l3:maxP (low a b) (low c d)=low a b\/maxP (low a b) (low c d)=low c d:=by unfold maxP;split<;>simp
  rcases l3 with l3|l3<;>rw[l3]<;>rcases l1 with l1|l1<;>rcases l2 with l2|l2<;>simp[l1,l2]
 have ht:minP (high a b) (high c d)∈[a,b,c,d]:=by
  have l1:high a b=a\/high a b=b:=by unfold high;split<;>simp
  have l2:high c d=c\/high c d=d:=by unfold high;split<;>simp
  have l3:minP (high a b) (high c d)=high a b\/minP (high a b) (high c d)=high c d:=by unfold minP;split<;>simp
  rcases l3 with l3|l3<;>rw[l3]<;>rcases l1 with l1|l1<;>rcases l2 with l2|l2<;>simp[l1,l2]
 generalize maxP (low a b) (low c d)=f at*
 generalize minP (high a b) (high c d)=t at*
 have ho:=zas f t
 have hle:le f t↔ordP f t<=0:=Iff.rfl
 rcases ho with⟨_,ho⟩|⟨e,ho⟩|⟨_,ho⟩
 ·have hlt:le f t:=by rw[hle,ho];decide
  have hne:f≠t:=λe=>by rw[e,zgw] at ho;cases ho
  have:=z1y ((hm' f).2 ⟨hf,zhp _,hlt⟩) ((hm' t).2 ⟨ht,hlt,zhp _⟩) hne
  rw[ho];omega
 ·subst e
  have:=z1z ((hm' f).2 ⟨hf,zhp _,zhp _⟩) hn (λy hy=>le_antisymm ((hm' y).1 hy).2.2 ((hm' y).1 hy).2.1)
  rw[ho];omega
 ·have:L=[]:=by
   cases L with
   |nil=>rfl
   |cons y r=>
    have:=(hm' y).1 (by simp)
    have:=hle.1 (le_trans this.2.1 this.2.2)
    omega
  rw[this,ho];rfl
theorem zmd (a b c d:Pt):znt a b c d=meet a b c d:=by
 unfold znt meet
 by_cases h0:turn a b c=0/\turn a b d=0/\turn c d a=0/\turn c d b=0
 ·obtain⟨h1,h2,h3,h4⟩:=h0
  rw[if_pos ⟨h1,h2,h3,h4⟩,if_neg (by omega),zp8 h1 h2 h3 h4]
  rfl
 ·have h0':turn a b c≠0\/turn a b d≠0\/turn c d a≠0\/turn c d b≠0:=by omega
  rw[if_neg h0,if_pos h0']
  by_cases hc:turn a b c*turn a b d<=0/\turn c d a*turn c d b<=0
  ·rw[if_pos hc,if_pos]
   refine⟨hc.1,hc.2,?_,?_⟩
   ·rcases Int.decEq (turn a b c) 0 with h|h
    ·exact .inl h
    ·refine .inr (zmc h ?_ hc.2)
     rcases Int.decEq (turn a b d) 0 with h'|h'
     ·exact zrm h h'
     ·omega
   ·rcases Int.decEq (turn a b d) 0 with h|h
    ·exact .inl h
    ·refine .inr (zmc (c:=d) (d:=c) h ?_ ?_)
     ·rcases Int.decEq (turn a b c) 0 with h'|h'
      ·exact zrm h h'
      ·rw[zda c d a,zda c d b];omega
     ·rw[zda c d a,zda c d b,Int.neg_mul_neg];exact hc.2
  ·rw[if_neg hc,if_neg (λh=>hc ⟨h.1,h.2.1⟩),if_neg]
   rintro(⟨h,k⟩|⟨h,k⟩|⟨h,k⟩|⟨h,k⟩)
   ·exact hc ⟨by rw[h,Int.zero_mul];exact Int.le_refl _,zgr h k⟩
   ·have:=zgr (d:=c) h k
    rw[zda c d a,zda c d b,Int.neg_mul_neg] at this
    exact hc ⟨by rw[h,Int.mul_zero];exact Int.le_refl _,this⟩
   ·exact hc ⟨zgr h k,by rw[h,Int.zero_mul];exact Int.le_refl _⟩
   ·have:=zgr (d:=a) h k
    rw[zda a b c,zda a b d,Int.neg_mul_neg] at this
    exact hc ⟨this,by rw[h,Int.mul_zero];exact Int.le_refl _⟩
end Go.Proofs.YthfpmfdiamldoaaGreatDoor.Geo
namespace Go.Proofs.YthfpmfdiamldoaaGreatDoor
open Go.RowKit Go.Shelf Lib Str Limb Geo
theorem zoo (a b p:Pt):onB a b p=true↔onR a b p:=by unfold onB onR;simp
theorem zqi {a b c d:Pt} (h0:¬(turn a b c=0/\turn a b d=0/\turn c d a=0/\turn c d b=0)):
 (if(((decide (turn a b c*turn a b d<=0)&&decide (turn c d a*turn c d b<=0))&&((turn a b c !=0)||onB a b c))&&((turn a b d !=0)||onB a b d))=true then(1:Int) else if(((((turn a b c==0)&&onB a b c)||((turn a b d==0)&&onB a b d))||((turn c d a==0)&&onB c d a))||((turn c d b==0)&&onB c d b))=true then 1 else 0)=meet a b c d:=by
 rw[<-zmd]
 unfold znt
 rw[if_neg h0]
 simp only[Bool.and_eq_true,Bool.or_eq_true,decide_eq_true_eq,bne_iff_ne,beq_iff_eq,zoo,and_assoc,or_assoc]
theorem zpj (a b c d e f:Pt):IntKind.i64.wrap (turn a b c*turn d e f)=turn a b c*turn d e f:=by
 unfold turn;exact zlg _ _ _ _
theorem z0a (a b c d:Pt) (k:Nat) (hk:0<k) (hk2:8*k+4<=300) (ha:szP a k) (hb:szP b k) (hc:szP c k) (hd:szP d k) (h0:¬(turn a b c=0/\turn a b d=0/\turn c d a=0/\turn c d b=0)) (w:zA) (hw:Wd w):
 qJ 44 #[ptV a,ptV b,ptV c,ptV d] w (.int .i64 (meet a b c d)):=by
 have hno:((((turn a b c==0)&&(turn a b d==0))&&(turn c d a==0))&&(turn c d b==0))=false:=by
  rw[Bool.eq_false_iff]
  intro h
  simp only[Bool.and_eq_true,beq_iff_eq,and_assoc] at h
  exact h0 h
 rw[<-zqi h0]
 exact zvn _ _ _ _ _ _ _ _ _ _ _ _ _ _ _ _ _ _ _ _ _ _ _ _ _ _ (hid rfl) (hid rfl) (hid rfl) (hid rfl) (hid rfl) (hid rfl) (hid (zpj a b c a b d)) (hid (zpj c d a c d b)) (hid rfl) (hid rfl) hno
  (hid λW hW=>zh8 a b c k hk hk2 ha hb hc W hW) (hid λW hW=>zh8 a b d k hk hk2 ha hb hd W hW) (hid λW hW=>zh8 c d a k hk hk2 hc hd ha W hW) (hid λW hW=>zh8 c d b k hk hk2 hc hd hb W hW)
  (hid λW hW=>zjm a b c k hk hk2 ha hb hc W hW) (hid λW hW=>zjm a b d k hk hk2 ha hb hd W hW) (hid λW hW=>zjm c d a k hk hk2 hc hd ha W hW) (hid λW hW=>zjm c d b k hk hk2 hc hd hb W hW) w (hid hw)
end Go.Proofs.YthfpmfdiamldoaaGreatDoor
namespace Go.Proofs.YthfpmfdiamldoaaGreatDoor
open Go.RowKit Go.Shelf Lib Str Limb Geo
attribute [local go_sem] Oper.semAt_some
theorem z1w:(Tryz.prog.info? 23).map (λi=>(i.zero,i.size,i.bytes))=some (some (St []),1,16):=by kernel_rfl
theorem zcj {W W':zA} (h:CellsKept W W') {B:Nat} {e:TypeId} {s:Nat} {v:Value} {n:Nat} {xs:List Value} (ho:W.ownsRow B e s v n xs):W'.ownsRow B e s v n xs:=by
 obtain⟨hl,ho⟩:=ho
 refine⟨hl,?_⟩
 rcases ho with ho|⟨g,cap,cur,e,hb,hg,hr⟩
 ·exact .inl ho
 ·exact .inr ⟨g,cap,cur,e,hb,h _ _ _ _ hg,hr⟩
theorem zmb {P:Program} (C':Value->zA->Prop) {o:Oper} {a:Act} (w:zA) (s x:Operand) (t:TypeId)
 (ho:o.op=.call {callee:=.builtin .append,args:= #[s,x],argTypes:= #[t,t]})
 (base:Nat) (e:TypeId) (i:TypeInfo) (z:Value) (size bytes:Nat) (ht:P.underlying t=some (.slice e)) (hi:P.info? e=some i) (hz:i.zero=some z)
 (hsize:i.size=size) (hby:i.bytes=bytes) (hzs:z.cells.size=size) (hsz:0<size)
 (v:Value) (n:Nat) (xs:List Value) (hs:a.eval s=v) (hown:w.ownsRow base e size v n xs)
 (ad:Addr) (m c:Nat) (news:List Value) (hx:a.eval x=.slice (some ad) m c) (hl:news.length=m*size) (hnews:∀j u,news[j]? =some u->w.cell? (ad.add j)=some u) (h1:∀u∈news,u.oneCell'=true)
 (h63:n+m<=maxLen) (hbytes:(n+m)*bytes<=140737488355328) (hbase:base<=w.heap.size)
 (h:∀v' w',w'.ownsRow base e size v' (n+m) (xs++news)->w.grownBy w' v.ownBlock->C' v' w'):zfp P C' ((execOp a.eval o).run P w):=by
 obtain⟨v',w',hr,h2,h3,h4⟩:=run_append_own (P:=P) w base t o.type e i z size bytes ht hi hz hsize hby hzs hsz v n xs hown ad m c news hl hnews h1 h63 hbytes hbase
 unfold execOp
 simp only[ho,resolve,invoke,builtin,Sem.run_bind,Sem.run_pure,Result.andThen_ok,List.map_toArray,List.map_cons,List.map_nil,hs,hx,hr]
 exact h v' w' h2 h3
def SegB (b:Nat) (x y:Pt) (W:zA):Prop:=W.heap[b]? =some (.cells #[St (numS x.x),St (numS x.y),St (numS y.x),St (numS y.y)] 63 (0,0))
theorem SegB.at {b:Nat} {x y:Pt} {W:zA} (h:SegB b x y W):SegAt b x y W:=by
 constructor<;>(rw[zJ h];rfl)
def zbh (l:List Pt) (k:Nat):Rat:=(cor l k).x*(cor l (k+1)).y-(cor l (k+1)).x*(cor l k).y
def zf4 (l:List Pt) (k:Nat):List Value:=(List.range k).map λi=>St (numS (zbh l i))
theorem zta (l:List Pt) (k:Nat):zf4 l (k+1)=zf4 l k++[St (numS (zbh l k))]:=by simp[zf4,List.range_succ]
structure AreaS (w:zA) (p:Option Addr) (cap n:Nat) (l:List Pt) (bt j:Nat) (W:zA):Prop where
 bel:qL w W
 bt1:w.heap.size<=bt
 pts:∀i,i<n->∃b off,p=some ⟨b,off,none⟩/\b<w.heap.size/\W.cell? ⟨b,off+i*2,none⟩=some (St (ptOf (txt l) i).1)/\W.cell? ⟨b,off+i*2+1,none⟩=some (St (ptOf (txt l) i).2)
 cbx:W.cell? ⟨bt+1,0,none⟩=some (.slice p n cap)
 box:∃v,W.cell? ⟨bt,0,none⟩=some v/\W.ownsRow (bt+2) 23 1 v j (zf4 l j)
 fr:W.frozen? ⟨bt,0,none⟩=false
theorem AreaS.keep {w:zA} {p:Option Addr} {cap n:Nat} {l:List Pt} {bt j:Nat} {W W':zA} (h:AreaS w p cap n l bt j W) (hc:CellsKept W W') (hb:Below w.heap.size W W'):AreaS w p cap n l bt j W':=
 ⟨h.bel.trans hb,h.bt1,λi hi=>let ⟨b,off,e,h0,h1,h2⟩:=h.pts i hi;⟨b,off,e,h0,hc.cell h1,hc.cell h2⟩,hc.cell h.cbx,let ⟨v,h1,h2⟩:=h.box;⟨v,hc.cell h1,zcj hc h2⟩,let ⟨_,h1,_⟩:=h.box;hc.frozen h1 h.fr⟩
theorem AreaS.ptsAt {w:zA} {p:Option Addr} {cap n:Nat} {l:List Pt} {bt j:Nat} {W:zA} (hn:n=l.length) (h:AreaS w p cap n l bt j W):zls (bt+1) p cap (txt l) W:=
 ⟨by rw[za2,<-hn];exact h.cbx,λi hi=>let ⟨b,off,e,_,h1,h2⟩:=h.pts i (by rw[za2] at hi;omega);⟨b,off,e,h1,h2⟩⟩
theorem zo9 {w:zA} {p:Option Addr} {cap n:Nat} {l:List Pt} {bt j:Nat} {W Y Z:zA} {v v':Value} (h:AreaS w p cap n l bt j W) (hv:W.cell? ⟨bt,0,none⟩=some v) (hown:W.ownsRow (bt+2) 23 1 v j (zf4 l j))
 (hY:qL W Y) (hZ:Y.grownBy Z v.ownBlock) (hz:Z.ownsRow (bt+2) 23 1 v' (j+1) (zf4 l (j+1))) (B:Nat):
 KeepsFrom B W (Z.setCell ⟨bt,0,none⟩ v')/\AreaS w p cap n l bt (j+1) (Z.setCell ⟨bt,0,none⟩ v'):=by
 have ck:=zac hY
 have hS:=h.keep ck (hY.mono h.bel.size)
 have ho:=zcj ck hown
 have hlt:∀q,v.ownBlock=some q->bt+2<=q:=λq e=>(ho.lt q e).1
 have hne:∀b,b<bt+2->some b≠v.ownBlock:=λb hb e=>by have:=hlt b e.symm;omega
 have hbt:=h.bt1
 have cz:∀{b o:Nat} {x:Value},b<bt+2->Y.cell? ⟨b,o,none⟩=some x->Z.cell? ⟨b,o,none⟩=some x:=λhb hc=>hZ.cell hc (hne _ hb)
 have hYs:bt<Y.heap.size:=zbe (ck.cell hv)
 refine⟨?_,?_,hbt,λi hi=>?_,?_,⟨v',?_,?_⟩,?_⟩
 ·refine((za0 hY).from B).trans (((KeepsOthers.of_grownBy hZ ?_).from B).trans ((KeepsOthers.setCell _ _ _).from B))
  intro q o e hq
  rcases ho.2 with⟨rfl,_⟩|⟨g,cp,cur,rfl,_,hg,_⟩
  ·simp[Value.ownBlock] at e
  ·simp[Value.ownBlock] at e;subst e;rw[hg] at hq;cases hq;rfl
 ·exact((hS.bel.grown hZ (by have:=zbe hS.cbx;simp at this;omega) (λq e=>by have:=hlt q e;omega))).setCell (by simpa using hbt) _
 ·obtain⟨b,off,e,h0,h1,h2⟩:=hS.pts i hi
  exact⟨b,off,e,h0,by rw[zau _ _ _ _ (by omega)];exact cz (by omega) h1,by rw[zau _ _ _ _ (by omega)];exact cz (by omega) h2⟩
 ·rw[zau _ _ _ _ (by omega)];exact cz (by omega) hS.cbx
 ·exact za9 (cz (by omega) (ck.cell hv))
 ·exact ownsRow_setCell_below hz (by simp) _
 ·rw[World.frozen?_setCell,World.frozen?_of_block (a:=⟨bt,0,none⟩) (hZ.block bt hYs (hne bt (by omega)))];exact hS.fr
structure AppS (W:zA) (v:Value) (u:List UInt8) (bt j:Nat) (xs:List Value) (b:Nat×Value) (f:Nat->Bool) (X:zA):Prop where
 pre:f 17=false->qL W X
 new:f 17=false->f 16=true->X.cell? ⟨b.1,0,none⟩=some (St u)
 post:f 17=true->∃Y Z,qL W Y/\Y.grownBy Z v.ownBlock/\Z.ownsRow (bt+2) 23 1 b.2 (j+1) (xs++[St u])/\X=if f 18=true then Z.setCell ⟨bt,0,none⟩ b.2 else Z
theorem AppS.congr {W:zA} {v:Value} {u:List UInt8} {bt j:Nat} {xs:List Value} {b:Nat×Value} {f g:Nat->Bool} {X:zA} (h:AppS W v u bt j xs b f X) (e16:g 16=f 16) (e17:g 17=f 17) (e18:g 18=f 18):AppS W v u bt j xs b g X:=
 ⟨by rw[e17];exact h.pre,by rw[e16,e17];exact h.new,by rw[e17,e18];exact h.post⟩
theorem zw7 (p:Option Addr) (cap:Nat) (l:List Pt) (h3:3<=l.length) (hlen:l.length<=4096) (r:Rat)
 (C:Hid (∀W:zA,Wd W->RowPts p l W->qJ 18 #[.slice p l.length cap] W (.int .i64 0)))
 (M1:Hid (∀k,k<l.length->qK 47 #[St (numS (cor l k).x),St (numS (cor l (k+1)).y)] (St (numS ((cor l k).x*(cor l (k+1)).y)))))
 (M2:Hid (∀k,k<l.length->qK 47 #[St (numS (cor l (k+1)).x),St (numS (cor l k).y)] (St (numS ((cor l (k+1)).x*(cor l k).y)))))
 (SB:Hid (∀k,k<l.length->qK 46 #[St (numS ((cor l k).x*(cor l (k+1)).y)),St (numS ((cor l (k+1)).x*(cor l k).y))] (St (numS (zbh l k)))))
 (SM:Hid (∀p cap,∀W:zA,Wd W->RowNums p l.length (zbh l) W->qJ 48 #[.slice p l.length cap] W (.tuple #[St (numS (psum (zbh l) l.length)),.int .i64 0])))
 (DV:Hid (qK 25 #[St (numS (psum (zbh l) l.length)),.string ⟨#[50]⟩] (.tuple #[St (numS r),.int .i64 0])))
 (w:zA) (HW:Hid (Wd w)) (HP:Hid (RowPts p l w)):
 qJ 16 #[.slice p l.length cap] w (.tuple #[St (numS r),.int .i64 0]):=by
 obtain⟨i0,hi,hz0,hz1,hz2⟩:=info_parts z1w
 refine(callsIn_wide (n:=3)).1 ?_
 refine callsIn_of_wp_marks Tryz.func16 rfl trivial ?_ rfl
 simp only[Tryz.ntmps16,List.size_toArray,List.length_cons,List.length_nil,Nat.reduceAdd,Nat.reduceSub,Array.replicate_succ,Array.replicate_zero,List.push_toArray,List.append_toArray,List.nil_append,List.cons_append]
 obtain⟨n,hn⟩:∃n,n=l.length:=⟨_,rfl⟩
 have hCk:=C.out w HW.out HP.out
 rw[<-hn] at h3 hlen hCk⊢
 have HN:=hid hn;clear hn
 have HCk:=hid hCk;clear hCk C
 gi_wp2
 refine⟨trivial,(callsIn_wide.2 HCk.out).mono ?_⟩
 rintro e w1 ⟨rfl,hb1⟩
 have HB1:=hid hb1;clear hb1 HCk
 gi_wp2_with (refine⟨trivial,?_⟩;gi_at_call 32;refine(callsIn_wide.2 (zfr _ _ _ _ _ rfl)).mono ?_;rintro e w' ⟨rfl,rfl⟩)
 obtain⟨W1,hW1⟩:∃W1,W1=(w1.alloc (.cells #[.slice none 0 0] 72)).alloc (.cells #[.slice p n cap] 22):=⟨_,rfl⟩
 rw[<-hW1]
 have hS1:AreaS w p cap n l w1.heap.size 0 W1:=by
  have hb:=HB1.out
  have b1:=(Boxed.new w1 72 (.slice none 0 0)).alloc (.cells #[.slice p n cap] 22)
  have b2:=Boxed.new (w1.alloc (.cells #[.slice none 0 0] 72)) 22 (.slice p n cap)
  rw[zH] at b2
  have hw:qL w1 ((w1.alloc (.cells #[.slice none 0 0] 72)).alloc (.cells #[.slice p n cap] 22)):=((zM _ w1).alloc (zN _) _).alloc (by simp) _
  rw[hW1]
  refine⟨hb.trans (hw.mono hb.size),hb.size,λi hi=>?_,b2.cell,⟨_,b1.cell,World.ownsRow_nil _ _ _ _⟩,b1.frozen⟩
  obtain⟨b,off,e,h1,h2⟩:=HP.out i (by rw[<-HN.out];exact hi)
  exact⟨b,off,e,zbe h1,zai hw (zai hb h1),zai hw (zai hb h2)⟩
 have hsz1:W1.heap.size=w1.heap.size+2:=by rw[hW1];simp
 clear hW1
 have HS1:=hid hS1.bel.size
 have HZ:=hid hsz1
 have hw1:w.heap.size<=w1.heap.size:=HB1.out.size
 have hseq:=zgi 2 (by omega) (w1.heap.size+1) (txt l) (by rw[za2,<-HN.out];omega) (λW=>∃j,AreaS w p cap n l w1.heap.size j W) p cap (λW ⟨j,h⟩=>h.ptsAt HN.out)
 rw[za2,<-HN.out] at hseq
 refine zfq (n:=3) (B:=w.heap.size) rfl (by omega) rfl trivial (enters_of Tryz.func82 (by kernel_rfl) rfl) hseq (λk args h=>by subst h;rfl) hS1.bel.size
  (λj W=>AreaS w p cap n l w1.heap.size j W) (λc _ W=>False)
  (λj X Y h hc hb=>h.keep hc hb) (λc j X Y h hc hb=>h) (λj W h=>⟨j,h⟩) hS1
  (λj _ a' W=>∃bs,a'={tmps:= #[Value.slice p n cap,undef,.string ⟨#[]⟩,.int .i64 0,.pointer (some ⟨w1.heap.size,0,none⟩),undef,.pointer (some ⟨bs,0,none⟩),undef,undef,Value.slice p n cap,.int .i64 0,.bool false,Value.slice p n cap,Value.func (Fn.func 82) #[] #[.pointer (some ⟨w1.heap.size+1,0,none⟩)],I j,segV (cor l j) (cor l (j+1)),undef,undef,undef,undef,undef,undef,undef,undef,undef,undef,undef,undef,undef,undef,undef,undef,undef,undef,undef,undef,undef,undef,undef,undef,undef,undef,undef,undef,undef,undef],defers:=[]}/\SegB bs (cor l j) (cor l (j+1)) W)
  (λj _ a' X Y h hc hb=>let ⟨bs,e,h2⟩:=h;⟨bs,e,hc _ _ _ _ h2⟩) ?assign ?body ?done ?stop
 case assign=>
  rintro lp j args W K hlp hrec hS hj rfl hK
  rw[zgj l j (by rw[<-HN.out];exact hj)]
  have HK:=hid hK;clear hK
  unfold segV
  gi_wp2
  have hb1:qL W (W.alloc (.cells #[St (numS (cor l j).x),St (numS (cor l j).y),St (numS (cor l (j+1)).x),St (numS (cor l (j+1)).y)] 63)):=(zM _ W).alloc (zN _) _
  exact HK.out _ _ ((za0 hb1).from _) (hS.keep (zac hb1) (hb1.mono hS.bel.size)) ⟨W.heap.size,rfl,zG W _⟩
 case body=>
  rintro lp j args a' W hlp ⟨r',hr'⟩ hS hj rfl ⟨bs,rfl,hseg⟩
  have hjl:j<l.length:=by rw[<-HN.out];exact hj
  have m1:=hid (M1.out j hjl);have m2:=hid (M2.out j hjl);have sb:=hid (SB.out j hjl)
  obtain⟨v,hv,hown⟩:=hS.box
  have H0:=hid hS
  have HT:=hid (zta l j)
  have HO:=hid hown
  obtain⟨u1,hu1⟩:∃u,u=numS ((cor l j).x*(cor l (j+1)).y):=⟨_,rfl⟩
  obtain⟨u2,hu2⟩:∃u,u=numS ((cor l (j+1)).x*(cor l j).y):=⟨_,rfl⟩
  obtain⟨u3,hu3⟩:∃u,u=numS (zbh l j):=⟨_,rfl⟩
  rw[<-hu1] at m1 sb;rw[<-hu2] at m2 sb;rw[<-hu3] at sb HT
  obtain⟨q1,q2,q3,q4⟩:=hseg.at
  clear hseg
  unfold segV
  generalize numS (cor l j).x=x1 at*
  generalize numS (cor l j).y=y1 at*
  generalize numS (cor l (j+1)).x=x2 at*
  generalize numS (cor l (j+1)).y=y2 at*
  have HQ:=hid (⟨hv,q1,q2,q3,q4⟩:W.cell? ⟨w1.heap.size,0,none⟩=some v/\W.cell? ⟨bs,0,none⟩=some (St x1)/\W.cell? ⟨bs,1,none⟩=some (St y1)/\W.cell? ⟨bs,2,none⟩=some (St x2)/\W.cell? ⟨bs,3,none⟩=some (St y2))
  clear q1 q2 q3 q4 hv hown hu1 hu2 hu3 hseq hS1 hr' hS M1 M2 SB SM DV
  gi_wp2
  have hbl:=H0.out.bel
  have hks:∀w':zA,qL W w'->w'.cell? ⟨w1.heap.size,0,none⟩=some v/\w'.cell? ⟨bs,0,none⟩=some (St x1)/\w'.cell? ⟨bs,1,none⟩=some (St y1)/\w'.cell? ⟨bs,2,none⟩=some (St x2)/\w'.cell? ⟨bs,3,none⟩=some (St y2):=λw' hb=>
   ⟨zai hb HQ.out.1,zai hb HQ.out.2.1,zai hb HQ.out.2.2.1,zai hb HQ.out.2.2.2.1,zai hb HQ.out.2.2.2.2⟩
  have KS:=hid hks;clear hks
  have HV:=hid HQ.out.1
  refine zrq (λ(b:Nat×Value) i=>([v,.pointer (some ⟨bs,0,none⟩),.pointer (some ⟨bs,0,none⟩),St x1,.pointer (some ⟨bs,2,none⟩),.pointer (some ⟨bs,3,none⟩),St y2,St u1,.pointer (some ⟨bs,2,none⟩),.pointer (some ⟨bs,2,none⟩),St x2,.pointer (some ⟨bs,0,none⟩),.pointer (some ⟨bs,1,none⟩),St y1,St u2,St u3,.slice (some ⟨b.1,0,none⟩) 1 1,b.2]:List Value).getD i undef) (AppS W v u3 w1.heap.size j (zf4 l j)) (by kernel_rfl) (by kernel_rfl) (by kernel_rfl) (0,v) ⟨λ_=>(zM _ W).drew,λ_ h=>(by cases h),λh=>(by cases h)⟩ λb=>?_
  refine qB (v) (λf W' h=>h.congr rfl rfl rfl) ?_ (hy:=λf W' hf h=>by have g:=KS.out _ (h.pre (hf.no (j:=17) hf.self (by kernel_rfl)));obtain⟨q0,q1,q2,q3,q4⟩:=g;go_simp)
  simp only[zzQ]
  refine qB (.pointer (some ⟨bs,0,none⟩)) (λf W' h=>h.congr rfl rfl rfl) ?_
  simp only[zzQ]
  refine qB (.pointer (some ⟨bs,0,none⟩)) (λf W' h=>h.congr rfl rfl rfl) ?_
  simp only[zzQ]
  refine qB (St x1) (λf W' h=>h.congr rfl rfl rfl) ?_ (hy:=λf W' hf h=>by have g:=KS.out _ (h.pre (hf.no (j:=17) (hf.no (j:=16) (hf.no (j:=15) (hf.no (j:=7) hf.self (by kernel_rfl)) (by kernel_rfl)) (by kernel_rfl)) (by kernel_rfl)));obtain⟨q0,q1,q2,q3,q4⟩:=g;go_simp)
  simp only[zzQ]
  refine qB (.pointer (some ⟨bs,2,none⟩)) (λf W' h=>h.congr rfl rfl rfl) ?_
  simp only[zzQ]
  refine qB (.pointer (some ⟨bs,3,none⟩)) (λf W' h=>h.congr rfl rfl rfl) ?_
  simp only[zzQ]
  refine qB (St y2) (λf W' h=>h.congr rfl rfl rfl) ?_ (hy:=λf W' hf h=>by have g:=KS.out _ (h.pre (hf.no (j:=17) (hf.no (j:=16) (hf.no (j:=15) (hf.no (j:=7) hf.self (by kernel_rfl)) (by kernel_rfl)) (by kernel_rfl)) (by kernel_rfl)));obtain⟨q0,q1,q2,q3,q4⟩:=g;go_simp)
  simp only[zzQ]
  refine zbv (St u1) (by rfl) (by rfl) (λf W' hf h C' hC'=>by
   have h17:=(hf.no (j:=17) (hf.no (j:=16) (hf.no (j:=15) hf.self (by kernel_rfl)) (by kernel_rfl)) (by kernel_rfl))
   have h16:=(hf.no (j:=16) (hf.no (j:=15) hf.self (by kernel_rfl)) (by kernel_rfl))
   have hp:=h.pre h17
   go_simp
   refine(m1.out _ (HW.out.below (hbl.trans (hp.mono hbl.size)))).mono ?_
   rintro e w' ⟨rfl,hb⟩
   exact⟨_,rfl,hC' _ ⟨λ_=>hp.trans (hb.mono hp.size),λ_ k=>(by have k':f 16=true:=k;rw[h16] at k';cases k'),λk=>(by have k':f 17=true:=k;rw[h17] at k';cases k')⟩⟩) ?_
  try simp only[zzQ]
  refine qB (.pointer (some ⟨bs,2,none⟩)) (λf W' h=>h.congr rfl rfl rfl) ?_
  simp only[zzQ]
  refine qB (.pointer (some ⟨bs,2,none⟩)) (λf W' h=>h.congr rfl rfl rfl) ?_
  simp only[zzQ]
  refine qB (St x2) (λf W' h=>h.congr rfl rfl rfl) ?_ (hy:=λf W' hf h=>by have g:=KS.out _ (h.pre (hf.no (j:=17) (hf.no (j:=16) (hf.no (j:=15) (hf.no (j:=14) hf.self (by kernel_rfl)) (by kernel_rfl)) (by kernel_rfl)) (by kernel_rfl)));obtain⟨q0,q1,q2,q3,q4⟩:=g;go_simp)
  simp only[zzQ]
  refine qB (.pointer (some ⟨bs,0,none⟩)) (λf W' h=>h.congr rfl rfl rfl) ?_
  simp only[zzQ]
  refine qB (.pointer (some ⟨bs,1,none⟩)) (λf W' h=>h.congr rfl rfl rfl) ?_
  simp only[zzQ]
  refine qB (St y1) (λf W' h=>h.congr rfl rfl rfl) ?_ (hy:=λf W' hf h=>by have g:=KS.out _ (h.pre (hf.no (j:=17) (hf.no (j:=16) (hf.no (j:=15) (hf.no (j:=14) hf.self (by kernel_rfl)) (by kernel_rfl)) (by kernel_rfl)) (by kernel_rfl)));obtain⟨q0,q1,q2,q3,q4⟩:=g;go_simp)
  simp only[zzQ]
  refine zbv (St u2) (by rfl) (by rfl) (λf W' hf h C' hC'=>by
   have h17:=(hf.no (j:=17) (hf.no (j:=16) (hf.no (j:=15) hf.self (by kernel_rfl)) (by kernel_rfl)) (by kernel_rfl))
   have h16:=(hf.no (j:=16) (hf.no (j:=15) hf.self (by kernel_rfl)) (by kernel_rfl))
   have hp:=h.pre h17
   go_simp
   refine(m2.out _ (HW.out.below (hbl.trans (hp.mono hbl.size)))).mono ?_
   rintro e w' ⟨rfl,hb⟩
   exact⟨_,rfl,hC' _ ⟨λ_=>hp.trans (hb.mono hp.size),λ_ k=>(by have k':f 16=true:=k;rw[h16] at k';cases k'),λk=>(by have k':f 17=true:=k;rw[h17] at k';cases k')⟩⟩) ?_
  try simp only[zzQ]
  refine zbv (St u3) (by rfl) (by rfl) (λf W' hf h C' hC'=>by
   have h17:=(hf.no (j:=17) (hf.no (j:=16) hf.self (by kernel_rfl)) (by kernel_rfl))
   have h16:=(hf.no (j:=16) hf.self (by kernel_rfl))
   have hp:=h.pre h17
   go_simp
   refine(sb.out _ (HW.out.below (hbl.trans (hp.mono hbl.size)))).mono ?_
   rintro e w' ⟨rfl,hb⟩
   exact⟨_,rfl,hC' _ ⟨λ_=>hp.trans (hb.mono hp.size),λ_ k=>(by have k':f 16=true:=k;rw[h16] at k';cases k'),λk=>(by have k':f 17=true:=k;rw[h17] at k';cases k')⟩⟩) ?_
  try simp only[zzQ]
  refine zdc (.slice (some ⟨b.1,0,none⟩) 1 1) (by rfl) (by rfl) (λf W' hf h C' hC'=>by
   have h17:=(hf.no (j:=17) hf.self (by kernel_rfl))
   have hp:=h.pre h17
   have ha:qL W' (W'.alloc (.cells #[St u3] 23)):=(zM _ W').alloc (zN _) _
   have:=hC' (W'.heap.size,b.2) (W'.alloc (.cells #[St u3] 23)) (λi hi=>?_) ⟨λ_=>hp.trans (ha.mono hp.size),λ_ _=>(Boxed.new W' 23 (St u3)).cell,λk=>(by have k':f 17=true:=k;rw[h17] at k';cases k')⟩
   ·go_simp
    exact this
   ·match i,hi with
    |0,_|1,_|2,_|3,_|4,_|5,_|6,_|7,_|8,_|9,_|10,_|11,_|12,_|13,_|14,_|15,_|17,_=>rfl
    |16,hi=>rw[hf.self] at hi;cases hi
    |_+18,_=>rfl) ?_
  try simp only[zzQ]
  refine zdc b.2 (by rfl) (by rfl) (λf W' hf h C' hC'=>by
   have h17:=hf.self
   have h18:=(hf.no (j:=18) hf.self (by kernel_rfl))
   have h16:=hf.done 16 (by kernel_rfl)
   have hp:=h.pre h17
   have hn:=h.new h17 h16
   have hc:=zac hp
   refine zmb _ W' _ _ 72 rfl (w1.heap.size+2) 23 i0 (St []) 1 16 Tryz.underlying72 hi hz0 hz1 hz2 rfl (by decide) v j (zf4 l j) rfl (zcj hc HO.out) ⟨b.1,0,none⟩ 1 1 [St u3] rfl rfl (λi u hu=>?_) (λu hu=>by simp at hu;subst hu;rfl) (by unfold maxLen;omega) (by omega) (by have:=zbe (hc.cell H0.out.cbx);simp at this;omega) (λv' w' hown' hgrow=>?_)
   ·match i,hu with
    |0,hu=>simp at hu;subst hu;exact hn
    |_+1,hu=>simp at hu
   ·refine hC' (b.1,v') w' (λi hi=>?_) ⟨λk=>?_,λk=>?_,λ_=>⟨W',w',hp,hgrow,hown',?_⟩⟩
    ·match i,hi with
     |0,_|1,_|2,_|3,_|4,_|5,_|6,_|7,_|8,_|9,_|10,_|11,_|12,_|13,_|14,_|15,_|16,_=>rfl
     |17,hi=>rw[hf.self] at hi;cases hi
     |_+18,_=>rfl
    ·cases k
    ·cases k
    ·show w'=if f 18=true then _ else w'
     rw[h18];rfl) ?_
  try simp only[zzQ]
  refine zbv undef (by rfl) (by rfl) (λf W' hf h C' hC'=>by
   have h17:=hf.done 17 (by kernel_rfl)
   have h18:=hf.self
   obtain⟨Y,Z,hY,hZ,hz,rfl⟩:=h.post h17
   rw[h18,if_neg (by simp)] at*
   have hst:=zo9 H0.out HV.out HO.out hY hZ (by rw[HT.out];exact hz) 0
   have ck:=zac hY
   have hlt:some w1.heap.size≠v.ownBlock:=λe=>by have:=((zcj ck HO.out).lt _ e.symm).1;omega
   have hcell:=hZ.cell (ck.cell HV.out) hlt
   have hfr:Z.frozen? ⟨w1.heap.size,0,none⟩=false:=by
    rw[World.frozen?_of_block (a:=⟨w1.heap.size,0,none⟩) (hZ.block _ (zbe (ck.cell HV.out)) hlt)];exact ck.frozen HV.out H0.out.fr
   have:=hC' (Z.setCell ⟨w1.heap.size,0,none⟩ b.2) ⟨λk=>(by have k':f 17=false:=k;rw[h17] at k';cases k'),λk=>(by have k':f 17=false:=k;rw[h17] at k';cases k'),λ_=>⟨Y,Z,hY,hZ,hz,rfl⟩⟩
   obtain⟨q,m,c,e2⟩:∃q m c,b.2=.slice q m c:=by
    rcases hz.2 with⟨e,_⟩|⟨g,cp,cur,e,_⟩<;>exact⟨_,_,_,e⟩
   rw[e2] at this
   clear hst
   go_simp
   exact this) ?_
  try simp only[Act.put]
  refine ze1 λf X hf h=>?_
  obtain⟨Y,Z,hY,hZ,hz,rfl⟩:=h.post (hf 17 (by decide))
  rw[if_pos (hf 18 (by decide))]
  have hst:=zo9 H0.out HV.out HO.out hY hZ (by rw[HT.out];exact hz) W1.heap.size
  exact hst
 case done=>
  rintro D W hD hS hK
  obtain⟨v,hv,hown⟩:=hS.box
  obtain⟨q,c,rfl⟩:∃q c,v=.slice q n c:=by
   rcases hown.2 with⟨_,e⟩|⟨g,cp,cur,e,_⟩
   ·omega
   ·exact⟨_,_,e⟩
  have hrow:RowNums q l.length (zbh l) W:=by
   intro i hi
   obtain⟨q',cap',e,_,hc⟩:=Sl.of_own hown
   have e1:=(Value.slice.inj e).1
   subst e1
   exact hc i _ (by unfold zf4;rw[List.getElem?_map,List.getElem?_range (by rw[HN.out];exact hi)];rfl)
  have hwd:=HW.out.below hS.bel
  have hsm:=SM.out q c W hwd hrow
  rw[<-HN.out] at hsm
  have HSM:=hid hsm
  have HX:=hid (⟨hS.bel,hK⟩:qL w W/\W.heap[D]? =some (.deferred (some [])))
  have hdv:=DV.out;rw[<-HN.out] at hdv
  have HDV:=hid hdv
  clear hS hK hown hrow hwd hsm hdv hseq hS1 M1 M2 SB SM DV
  gi_wp2
  refine⟨trivial,(callsIn_wide.2 HSM.out).mono ?_⟩
  rintro e W2 ⟨rfl,hb2⟩
  have hbl2:=HX.out.1.trans (hb2.mono HX.out.1.size)
  have HX2:=hid (⟨hbl2,(hb2.block _ (Array.getElem?_eq_some_iff.1 HX.out.2).1).trans HX.out.2⟩:qL w W2/\W2.heap[D]? =some (.deferred (some [])))
  clear hb2 hbl2 HX HSM
  gi_wp2
  refine⟨trivial,(callsIn_wide.2 (HDV.out W2 (HW.out.below HX2.out.1))).mono ?_⟩
  rintro e W3 ⟨rfl,hb3⟩
  have hbl3:=HX2.out.1.trans (hb3.mono HX2.out.1.size)
  have HX3:=hid (⟨hbl3,(hb3.block _ (Array.getElem?_eq_some_iff.1 HX2.out.2).1).trans HX2.out.2⟩:qL w W3/\W3.heap[D]? =some (.deferred (some [])))
  clear hb3 hbl3 HX2
  gi_wp2
  refine⟨by simp,.inl ⟨_,_,rfl,run_takeDeferred HX3.out.2,?_⟩⟩
  refine⟨.tuple #[St (numS r),.int .i64 0],by simp[results,Tryz.f16,go_sem],⟨rfl,zby HX3.out.1 (by have:=HS1.out;omega) HX3.out.2⟩⟩
 case stop=>
  rintro D c j W hD h hK
  exact h.elim
theorem zzk:numS 2=[50]:=by
 have:numS ((2:Int):Rat)=[50]:=by rw[zha];show itoa ((2:Nat):Int)=_;rw[Str.zad,zae (by omega)];rfl
 exact this
theorem zw8:sz 2 1:=⟨by decide,by decide⟩
theorem zt5 (p:Option Addr) (cap:Nat) (l:List Pt) (h3:3<=l.length) (hlen:l.length<=4096) (hz:∀i,szP (cor l i) 36) (hs:zch l) (hm:zbz l)
 (ht:∀k,k<l.length->∃i j,0<i/\0<j/\i+j<300/\sz (psum (zbh l) k) i/\sz (zbh l k) j) (m:Nat) (hm0:0<m) (hm1:m+1<=300) (hmz:sz (psum (zbh l) l.length) m)
 (w:zA) (hw:Wd w) (hp:RowPts p l w):
 qJ 16 #[.slice p l.length cap] w (.tuple #[St (numS (psum (zbh l) l.length/2)),.int .i64 0]):=by
 refine zw7 p cap l h3 hlen _ (hid λW hW hp=>zj5 p cap l h3 hlen hz hs hm W hW hp)
  (hid λk _ W hW=>zhm _ _ 36 36 (by omega) (by omega) (by omega) (hz _).1 (hz _).2 W hW) (hid λk _ W hW=>zhm _ _ 36 36 (by omega) (by omega) (by omega) (hz _).1 (hz _).2 W hW)
  (hid λk _ W hW=>zgg _ _ 72 72 (by omega) (by omega) (by omega) (zca (hz _).1 (hz _).2) (zca (hz _).1 (hz _).2) W hW)
  (hid λp cap W hW hp=>z23 p cap l.length (zbh l) hlen ht W hW hp) (hid λW hW=>?_) w (hid hw) (hid hp)
 have:=zoj (psum (zbh l) l.length) 2 (by decide) m 1 hm0 (by omega) hm1 hmz zw8 W hW
 rwa [zzk] at this
end Go.Proofs.YthfpmfdiamldoaaGreatDoor
namespace Go.Proofs.YthfpmfdiamldoaaGreatDoor
open Go.RowKit Go.Shelf Lib Str Limb
attribute [local go_sem] Oper.semAt_some
theorem zti (x u v s1 s2:ByteArray) (m d:Int) (hu:(u.toList==[48])=false) (hl:(u.size:Int)+v.size<=17) (hl0:u.size<=17/\v.size<=17)
 (CK:Hid (∀W:zA,Wd W->Calls Tryz.prog 207 #[.slice (some ⟨W.heap.size,0,none⟩) 1 1,.slice (some ⟨W.heap.size+1,0,none⟩) 1 1] ((W.alloc (.cells #[.string x] 23)).alloc (.cells #[.string x] 23)) λe w'=>e=.returned (.int .i64 0)/\Below W.heap.size W w'))
 (O:Hid (qK 209 #[.string x] (.agg #[.string u,.string v])))
 (NU:Hid (qK 233 #[.string u] (.tuple #[.int .i64 m,.bool true])))
 (NV:Hid (qK 233 #[.string v] (.tuple #[.int .i64 d,.bool true])))
 (NN:Hid (∀W:zA,Wd W->Pw W->qJ 234 #[.int .i64 m,.int .i64 d] W (.tuple #[.string s1,.string s2])))
 (w:zA) (HW:Hid (Wd w)) (HP:Hid (Pw w)):
 qJ 184 #[.string x] w (.tuple #[.string s1,.string s2,.int .i64 0]):=by
 have hck:=CK.out w HW.out
 have HCK:=hid hck;clear hck CK
 have hwl:IntKind.i64.wrap ((u.size:Int)+v.size)=(u.size:Int)+v.size:=IntWalk.i64_in _ ⟨by omega,by omega⟩
 go_enter Tryz.func184,Tryz.ntmps184
 go_wp2_with fail
 refine HCK.out.mono ?_
 rintro e w1 ⟨rfl,hb1⟩
 have HB1:=hid hb1;clear hb1 HCK
 go_wp2_with fail
 refine(O.out w1 (HW.out.below HB1.out)).mono ?_
 rintro e w2 ⟨rfl,hb2⟩
 have HB2:=qT HB1 hb2;clear hb2 HB1
 obtain⟨w3,hw3⟩:∃w3,w3=w2.alloc (.cells #[.string u,.string v] 230):=⟨_,rfl⟩
 have ha:qL w2 w3:=by rw[hw3];exact(zM _ w2).alloc (zN _) _
 have A3:w3.heap[w2.heap.size]? =some (.cells #[.string u,.string v] 230 (0,0)):=by rw[hw3];exact zG w2 _
 have HB3:=qT HB2 ha
 have c0:w3.cell? ⟨w2.heap.size,0,none⟩=some (.string u):=by rw[zJ A3];rfl
 have c1:w3.cell? ⟨w2.heap.size,1,none⟩=some (.string v):=by rw[zJ A3];rfl
 have C3:=hid (⟨c0,c1⟩:w3.cell? ⟨w2.heap.size,0,none⟩=some (.string u)/\w3.cell? ⟨w2.heap.size,1,none⟩=some (.string v))
 rw[hw3] at c0 c1
 have HW3:=hid hw3;clear hw3 ha A3
 go_wp2_with fail
 rw[<-HW3.out]
 clear c0 c1
 refine(NU.out w3 (HW.out.below HB3.out)).mono ?_
 rintro e w4 ⟨rfl,hb4⟩
 have HB4:=qT HB3 hb4
 have c0:=(zac hb4).cell C3.out.1;have c1:=(zac hb4).cell C3.out.2
 clear hb4 HW3
 go_wp2_with fail
 refine(NV.out w4 (HW.out.below HB4.out)).mono ?_
 rintro e w5 ⟨rfl,hb5⟩
 have HB5:=qT HB4 hb5
 clear hb5 c0 c1
 go_wp2_with fail
 refine(NN.out w5 (HW.out.below HB5.out) (HP.out.below HB5.out)).mono ?_
 rintro e w6 ⟨rfl,hb6⟩
 have HB6:=qT HB5 hb6
 clear hb6
 go_wp2_with fail
 go_ret3
 exact⟨rfl,HB6.out⟩
theorem zc5 (n:Nat):numS ((n:Int):Rat)=zD n:=by rw[zha,Str.zad]
theorem zki {n k:Nat} (hk:0<k) (h:n<10^k):(zD n).length<=k:=(zaf n k hk).2 h
theorem z0b (W:zA) (t:TypeId) (x:List UInt8) (q:Rat) (hx:numS q=x):
 RowNums (some ⟨W.heap.size,0,none⟩) 1 (λ_=>q) ((W.alloc (.cells #[St x] t)).alloc (.cells #[St x] t))/\
 RowNums (some ⟨W.heap.size+1,0,none⟩) 1 (λ_=>q) ((W.alloc (.cells #[St x] t)).alloc (.cells #[St x] t)):=by
 have b1:=(Boxed.new W t (St x)).alloc (.cells #[St x] t)
 have b2:=Boxed.new (W.alloc (.cells #[St x] t)) t (St x)
 rw[zH] at b2
 constructor
 ·intro i hi
  obtain rfl:i=0:=by omega
  exact⟨_,_,rfl,by rw[hx];exact b1.cell⟩
 ·intro i hi
  obtain rfl:i=0:=by omega
  exact⟨_,_,rfl,by rw[hx];exact b2.cell⟩
theorem zlh (r:Nat) (hr:0<r) (hr2:r<=200) (H1:∀c l:Nat,c*c*l=r*r->(∀i,i<25->¬prN i*prN i∣l)->c=r/\l=1) (w:zA) (hw:Wd w) (hp:Pw w):
 qJ 184 #[St (zD (r*r))] w (.tuple #[St (zD r),St [49],.int .i64 0]):=by
 have hm:r*r<=200*200:=Nat.mul_le_mul hr2 hr2
 have hp0:0<r*r:=Nat.mul_pos hr hr
 have sz:∀k:List UInt8,(⟨k.toArray⟩:ByteArray).size=k.length:=λk=>by show k.toArray.size=_;simp
 have hl:(zD (r*r)).length<=5:=zki (by omega) (by omega)
 have d1:zD 1=[49]:=by rw[zae (by omega)];rfl
 have hq:=zc5 (r*r)
 have hnum:(((r*r:Nat):Int):Rat).num=((r*r:Nat):Int):=rfl
 have hden:(((r*r:Nat):Int):Rat).den=1:=rfl
 generalize hqq:(((r*r:Nat):Int):Rat)=q at*
 have hdig:digs q.num<=5:=by rw[hnum];show(zD (((r*r:Nat):Int).natAbs)).length<=5;rw[Int.natAbs_natCast];exact hl
 have hdl:(zD q.den).length=1:=by rw[hden,d1];rfl
 have hok:okQ q:=⟨by omega,by omega⟩
 refine zti ⟨(zD (r*r)).toArray⟩ ⟨(zD (r*r)).toArray⟩ ⟨#[49]⟩ ⟨(zD r).toArray⟩ ⟨#[49]⟩ ((r*r:Nat):Int) 1 ?_ ?_ ?_ (hid λW hW=>?_) (hid λW hW=>?_) (hid λW hW=>?_) (hid λW hW=>?_) (hid λW hW hP=>?_) w (hid hw) (hid hp)
 ·exact zhl (n:=r*r) rfl 0 (by omega) (by omega)
 ·rw[sz];show((zD (r*r)).length:Int)+1<=17;omega
 ·rw[sz];exact⟨by omega,by decide⟩
 ·obtain⟨t1,t2⟩:=z0b W 23 _ q hq
  have hal:qL W ((W.alloc (.cells #[St (zD (r*r))] 23)).alloc (.cells #[St (zD (r*r))] 23)):=((zM _ W).alloc (zN _) _).alloc (by simp) _
  refine(zji _ _ 1 1 1 1 (λ_=>q) (λ_=>q) (by omega) (by omega) (hid λ_ _ W hW=>zfj q hok W hW) (hid λ_ _ W hW=>zio q hok W hW) (hid λ_ _=>⟨by omega,by omega⟩)
   (hid λ_ _ W=>zma q (by rw[hnum];omega) W) _ (hid (hW.below hal)) (hid t1) (hid t2)).mono ?_
  rintro e w' ⟨rfl,hb⟩
  exact⟨rfl,hal.trans (hb.mono hal.size)⟩
 ·have:=zio q hok W hW
  rw[hq,hnum,hden,Str.zad,d1] at this
  exact this
 ·have:=zk7 (r*r) (by omega) W hW
  exact this
 ·have:=zk7 1 (by rw[d1];decide) W hW
  rw[d1] at this
  exact this
 ·refine znr r hr hr2 (hid H1) (hid λi hi W=>?_) W (hid hW) (hid hP)
  have h9:=zw4 i hi
  have h2:=zki (n:=prN i) (k:=2) (by omega) (by omega)
  have:=znc (prN i:Int) (by rw[Str.zad];omega) W
  rw[Str.zad] at this
  rw[z1r i hi]
  exact this
theorem zfg:zD 1=[49]:=by rw[zae (by omega)];rfl
theorem zx3:Lib.itoa 1=[49]:=by show Lib.itoa ((1:Nat):Int)=_;rw[Str.zad,zfg]
theorem zfc:numS 1=[49]:=by have:=zc5 1;rw[zfg] at this;exact this
theorem zn5:okQ 1:=⟨by show(zD 1).length<=300;rw[zfg];decide,by show(zD 1).length<=300;rw[zfg];decide⟩
theorem sz_1:sz 1 1:=⟨by decide,by decide⟩
theorem zpk (w:zA) (hw:Wd w):
 qJ 237 #[.string ⟨#[49]⟩] w (.tuple #[.string ⟨#[49]⟩,.bool true]):=by
 have HN:Hid (qK 233 #[.string ⟨#[49]⟩] (.tuple #[.int .i64 1,.bool true])):=
  hid λW hW=>by have:=zk7 1 (by rw[zfg];decide) W hW;rw[zfg] at this;exact this
 have HI:Hid (qK 74 #[.int .i64 1] (.string ⟨#[49]⟩)):=
  hid λW hW=>by have:=zb3 1 (by omega) (by omega) W hW;rw[zx3] at this;exact this
 have HW:=hid hw;clear hw
 go_enter Tryz.func237,Tryz.ntmps237
 go_wp2_with fail
 refine(HN.out w HW.out).mono ?_
 rintro e w1 ⟨rfl,hb1⟩
 go_wp2_with fail
 refine(zjj w1).mono ?_
 rintro e w2 ⟨rfl,hw1⟩
 have hw2:=hw1.symm;subst hw2;clear hw1
 go_wp2_with fail
 refine(HI.out w1 (HW.out.below hb1)).mono ?_
 rintro e w2 ⟨rfl,hb2⟩
 have hB:=hb1.trans (hb2.mono hb1.size)
 clear hb2
 go_wp2_with fail
 go_ret2
 exact⟨rfl,hB⟩
theorem zr9 (w:zA) (hw:Wd w):
 qJ 238 #[.string ⟨#[49]⟩,.string ⟨#[49]⟩] w (.string ⟨#[49]⟩):=by
 have hd:=zoj 1 1 (by decide) 1 1 (by omega) (by omega) (by omega) sz_1 sz_1 w hw
 rw[show((1:Rat)/1)=1 by grind,zfc] at hd
 have HD:=hid hd;clear hd
 go_enter Tryz.func238,Tryz.ntmps238
 go_wp2_with fail
 refine HD.out.mono ?_
 rintro e w1 ⟨rfl,hb⟩
 go_wp2_with fail
 go_ret
 exact⟨rfl,hb⟩
theorem zop (w:zA) (hw:Wd w):
 qJ 208 #[.agg #[.string ⟨#[49]⟩,.string ⟨#[49]⟩]] w (.tuple #[.string ⟨#[49]⟩,.bool true]):=by
 obtain⟨W1,hW1⟩:∃W1,W1=w.alloc (.cells #[.string ⟨#[49]⟩,.string ⟨#[49]⟩] 230):=⟨_,rfl⟩
 have hb1:qL w W1:=by rw[hW1];exact(zM _ w).alloc (zN _) _
 have A:W1.heap[w.heap.size]? =some (.cells #[.string ⟨#[49]⟩,.string ⟨#[49]⟩] 230 (0,0)):=by rw[hW1];exact zG w _
 have a0:W1.cell? ⟨w.heap.size,0,none⟩=some (.string ⟨#[49]⟩):=by rw[zJ A];rfl
 have a1:W1.cell? ⟨w.heap.size,1,none⟩=some (.string ⟨#[49]⟩):=by rw[zJ A];rfl
 have HA:=hid (⟨a0,a1⟩:W1.cell? ⟨w.heap.size,0,none⟩=some (.string ⟨#[49]⟩)/\W1.cell? ⟨w.heap.size,1,none⟩=some (.string ⟨#[49]⟩))
 have HB:=hid hb1
 rw[hW1] at a0 a1
 have HW1:=hid hW1
 have HW:=hid hw
 clear hW1 hb1 A hw
 go_enter Tryz.func208,Tryz.ntmps208
 go_wp2_with fail
 rw[<-HW1.out]
 refine(zpk W1 (HW.out.below HB.out)).mono ?_
 rintro e w2 ⟨rfl,hb2⟩
 have HB2:=qT HB hb2
 have g0:=(zac hb2).cell HA.out.1;have g1:=(zac hb2).cell HA.out.2
 clear hb2 a0 a1
 go_wp2_with fail
 refine(zpk w2 (HW.out.below HB2.out)).mono ?_
 rintro e w3 ⟨rfl,hb3⟩
 have HB3:=qT HB2 hb3
 clear hb3 g0 g1
 go_wp2_with fail
 all_goals first|exact(zzU ‹_›).elim|skip
 refine(zr9 w3 (HW.out.below HB3.out)).mono ?_
 rintro e w4 ⟨rfl,hb4⟩
 have HB4:=HB3.out.trans (hb4.mono HB3.out.size)
 clear hb4
 go_wp2_with fail
 go_ret2
 exact⟨rfl,HB4⟩
theorem ztj (W:zA) (t:TypeId):
 RowNums (some ⟨W.heap.size,0,none⟩) 2 (λ_=>1) ((W.alloc (.cells #[St [49],St [49]] t)).alloc (.cells #[St [49],St [49]] t))/\
 RowNums (some ⟨W.heap.size+1,0,none⟩) 2 (λ_=>1) ((W.alloc (.cells #[St [49],St [49]] t)).alloc (.cells #[St [49],St [49]] t)):=by
 have A1:=(Below.heap_alloc (W.alloc (.cells #[St [49],St [49]] t)) (.cells #[St [49],St [49]] t) W.heap.size (by simp)).trans (zG W (.cells #[St [49],St [49]] t (0,0)))
 have A2:=zG (W.alloc (.cells #[St [49],St [49]] t)) (.cells #[St [49],St [49]] t (0,0))
 rw[zH] at A2
 constructor
 ·intro i hi
  refine⟨_,_,rfl,?_⟩
  rw[zfc,zJ A1]
  match i,hi with
  |0,_|1,_=>rfl
 ·intro i hi
  refine⟨_,_,rfl,?_⟩
  rw[zfc,zJ A2]
  match i,hi with
  |0,_|1,_=>rfl
theorem zpl (w:zA) (hw:Wd w):
 qJ 166 #[.string ⟨#[49]⟩,.string ⟨#[49]⟩] w (.tuple #[.string ⟨#[49]⟩,.bool true,.int .i64 0]):=by
 obtain⟨W1,hW1⟩:∃W1,W1=(w.alloc (.cells #[St [49],St [49]] 23)).alloc (.cells #[St [49],St [49]] 23):=⟨_,rfl⟩
 have hb1:qL w W1:=by rw[hW1];exact((zM _ w).alloc (zN _) _).alloc (by simp) _
 have hd1:digs (1:Rat).num<=90/\(zD (1:Rat).den).length<=90:=⟨by show(zD 1).length<=90;rw[zfg];decide,by show(zD 1).length<=90;rw[zfg];decide⟩
 obtain⟨t1,t2⟩:=ztj w 23
 rw[<-hW1] at t1 t2
 have hck:=zji _ _ 2 2 2 2 (λ_=>1) (λ_=>1) (by omega) (by omega) (hid λ_ _ W hW=>zfj 1 zn5 W hW) (hid λ_ _ W hW=>zio 1 zn5 W hW) (hid λ_ _=>hd1)
  (hid λ_ _ W=>zma 1 (by decide) W) W1 (hid (hw.below hb1)) (hid t1) (hid t2)
 have HCK:=hid hck
 have HO:Hid (qK 209 #[.string ⟨#[49]⟩] (.agg #[.string ⟨#[49]⟩,.string ⟨#[49]⟩])):=hid λW hW=>by
  have:=zio 1 zn5 W hW
  rw[zfc,show(1:Rat).num=1 from rfl,show(1:Rat).den=1 from rfl,zx3,zfg] at this
  exact this
 have HD:Hid (qK 25 #[.string ⟨#[49]⟩,.string ⟨#[49]⟩] (.tuple #[.string ⟨#[49]⟩,.int .i64 0])):=hid λW hW=>by
  have:=zoj 1 1 (by decide) 1 1 (by omega) (by omega) (by omega) sz_1 sz_1 W hW
  rw[show((1:Rat)/1)=1 by grind,zfc] at this
  exact this
 have HB1:=hid hb1
 have HW1:=hid hW1
 have HW:=hid hw
 clear hW1 hb1 hck hd1 t1 t2 hw
 go_enter Tryz.func166,Tryz.ntmps166
 go_wp2_with fail
 rw[<-show W1=(w.alloc (.cells #[.string ⟨#[49]⟩,.string ⟨#[49]⟩] 23)).alloc (.cells #[.string ⟨#[49]⟩,.string ⟨#[49]⟩] 23) from HW1.out]
 refine HCK.out.mono ?_
 rintro e w2 ⟨rfl,hb2⟩
 have HB2:=qT HB1 hb2;clear hb2 HCK HW1
 go_wp2_with fail
 refine(HD.out w2 (HW.out.below HB2.out)).mono ?_
 rintro e w3 ⟨rfl,hb3⟩
 have HB3:=qT HB2 hb3;clear hb3
 go_wp2_with fail
 refine(HO.out w3 (HW.out.below HB3.out)).mono ?_
 rintro e w4 ⟨rfl,hb4⟩
 have HB4:=qT HB3 hb4;clear hb4
 go_wp2_with fail
 refine(zop w4 (HW.out.below HB4.out)).mono ?_
 rintro e w5 ⟨rfl,hb5⟩
 have HB5:=HB4.out.trans (hb5.mono HB4.out.size);clear hb5
 go_wp2_with fail
 go_ret3
 exact⟨rfl,HB5⟩
structure PlusS (w:zA) (x y:List UInt8) (W:zA):Prop where
 bel:qL w W
 h0:W.heap[w.heap.size]? =some (.cells #[St x,St [49]] 174 (0,0))
 h1:W.heap[w.heap.size+1]? =some (.cells #[St y,St [49]] 174 (0,0))
 h2:W.heap[w.heap.size+1+1]? =some (.cells #[St [],St []] 174 (0,0))
theorem PlusS.next {w:zA} {x y:List UInt8} {W W':zA} (h:PlusS w x y W) (hb:qL W W'):PlusS w x y W':=
 have hc:=zac hb
 ⟨h.bel.trans (hb.mono h.bel.size),hc _ _ _ _ h.h0,hc _ _ _ _ h.h1,hc _ _ _ _ h.h2⟩
theorem PlusS.cells {w:zA} {x y:List UInt8} {W:zA} (h:PlusS w x y W):
 W.cell? ⟨w.heap.size,0,none⟩=some (St x)/\W.cell? ⟨w.heap.size,1,none⟩=some (.string ⟨#[49]⟩)/\W.cell? ⟨w.heap.size+1,0,none⟩=some (St y)/\W.cell? ⟨w.heap.size+1,1,none⟩=some (.string ⟨#[49]⟩)/\
 W.cell? ⟨w.heap.size+1+1,0,none⟩=some (St [])/\W.cell? ⟨w.heap.size+1+1,1,none⟩=some (St [])/\W.frozen? ⟨w.heap.size+1+1,0,none⟩=false/\W.frozen? ⟨w.heap.size+1+1,1,none⟩=false:=by
 refine⟨?_,?_,?_,?_,?_,?_,Go.Joins.unfrozen_of_block h.h2 0,Go.Joins.unfrozen_of_block h.h2 1⟩
 ·rw[zJ h.h0];rfl
 ·rw[zJ h.h0];rfl
 ·rw[zJ h.h1];rfl
 ·rw[zJ h.h1];rfl
 ·rw[zJ h.h2];rfl
 ·rw[zJ h.h2];rfl
theorem PlusS.start (w:zA) (x y:List UInt8):PlusS w x y (((w.alloc (.cells #[St x,St [49]] 174)).alloc (.cells #[St y,St [49]] 174)).alloc (.cells #[St [],St []] 174)):=by
 refine⟨(((zM _ w).alloc (zN _) _).alloc (by simp) _).alloc (by simp;omega) _,?_,?_,?_⟩
 ·exact(Below.heap_alloc _ _ _ (by simp;omega)).trans ((Below.heap_alloc _ _ _ (by simp)).trans (zG w _))
 ·have:=zG (w.alloc (.cells #[St x,St [49]] 174)) (.cells #[St y,St [49]] 174)
  rw[zH] at this
  exact(Below.heap_alloc _ _ _ (by simp)).trans this
 ·have:=zG ((w.alloc (.cells #[St x,St [49]] 174)).alloc (.cells #[St y,St [49]] 174)) (.cells #[St [],St []] 174)
  simp only[zH] at this
  exact this
theorem zx4 (x y z:List UInt8)
 (M:Hid (qK 24 #[St y,.string ⟨#[49]⟩] (.tuple #[St y,.int .i64 0])))
 (A:Hid (qK 23 #[St x,St y] (.tuple #[St z,.int .i64 0])))
 (w:zA) (HW:Hid (Wd w)):
 qJ 185 #[.agg #[St x,St [49]],.agg #[St y,St [49]]] w (.tuple #[.agg #[St z,St [49]],.int .i64 0]):=by
 have hS:=PlusS.start w x y
 obtain⟨c0,c1,c2,c3,c4,c5,f0,f1⟩:=hS.cells
 obtain⟨W1,hW1⟩:∃W1,W1=((w.alloc (.cells #[St x,St [49]] 174)).alloc (.cells #[St y,St [49]] 174)).alloc (.cells #[St [],St []] 174):=⟨_,rfl⟩
 rw[<-hW1] at hS
 have HS:=hid hS;have HW1:=hid hW1;clear hS hW1
 go_enter Tryz.func185,Tryz.ntmps185
 go_wp2_with fail
 have h9:=HW1.out
 rw[<-h9]
 clear h9 c0 c1 c2 c3 c4 c5 f0 f1
 refine(zpl W1 (HW.out.below HS.out.bel)).mono ?_
 rintro e w2 ⟨rfl,hb2⟩
 have H2:=hid (HS.out.next hb2);clear hb2 HS HW1
 obtain⟨c0,c1,c2,c3,c4,c5,f0,f1⟩:=H2.out.cells
 go_wp2_with fail
 refine(M.out w2 (HW.out.below H2.out.bel)).mono ?_
 rintro e w3 ⟨rfl,hb3⟩
 have H3:=hid (H2.out.next hb3);clear hb3 H2 c0 c1 c2 c3 c4 c5 f0 f1
 obtain⟨c0,c1,c2,c3,c4,c5,f0,f1⟩:=H3.out.cells
 go_wp2_with fail
 refine(A.out w3 (HW.out.below H3.out.bel)).mono ?_
 rintro e w4 ⟨rfl,hb4⟩
 have H4:=hid (H3.out.next hb4);clear hb4 H3 c0 c1 c2 c3 c4 c5 f0 f1
 obtain⟨c0,c1,c2,c3,c4,c5,f0,f1⟩:=H4.out.cells
 have hB4:=H4.out.bel
 go_wp2_with fail
 refine bodyPost_ret (v:=.tuple #[.agg #[St z,St [49]],.int .i64 0]) (by simp[results,Tryz.results185,go_sem,c4,c5]) rfl ⟨rfl,?_⟩
 repeat(first|exact hB4|refine Below.setCell ?_ (by simp;omega) _)
end Go.Proofs.YthfpmfdiamldoaaGreatDoor
