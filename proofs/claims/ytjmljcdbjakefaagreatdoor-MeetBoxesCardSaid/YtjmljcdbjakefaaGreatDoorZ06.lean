/- rational.read, Check, Parts, at -/
import Derived.Test.YtjmljcdbjakefaaGreatDoorZ05
import Derived.Test.YtjmljcdbjakefaaGreatDoorRows
import Derived.Lib.SmallJoins
import Derived.ProofKit
import Derived.Lib.LaidU8
import Derived.HandedShaped
import Derived.Lay
import Derived.Shelf.Vars
import Derived.Carry
set_option maxRecDepth 100000
set_option maxHeartbeats 8000000
open Go.Value renaming string → z8, tuple → ze, pointer → zf, bool → zg, agg → zh, int → zj
open Go.IntKind renaming i64 → zm
open Go.Obj renaming cells → zn
open Go.Ending renaming returned → zo
open Option renaming none → zp, some → zq
open Bool renaming true → zt, false → zu
open Go renaming World → zA, Calls → zC
open Go.RowKit renaming Below → zB, intOf → zL
open Go.Lib renaming decDigits → zD, itoa → zE
open Go.Proofs.Tryz renaming prog → zF
open Go.World renaming alloc_heap_new → zG, size_alloc → zH
open Go.IntWalk renaming i64_in → zI
open Go.Joins renaming cell_of_block → zJ
open Go.RowKit.Below renaming refl → zM
open Nat renaming le_refl → zN, le_trans → zO
open List renaming size_toArray → zZ
open Int renaming natAbs_natCast → yY, natCast_mul → xE
namespace Go.Proofs.YtjmljcdbjakefaaGreatDoor
section
open Go.RowKit Go.Shelf Lib Str Limb
attribute [local go_sem] Oper.semAt_some
def okQ (q:Rat):Prop:=digs q.num<=300/\(zD q.den).length<=300
theorem zu2 (q:Rat) (h:zbb q) (w:zA) (hw:Wd w):
 qJ 140 #[St (numS q)] w (ze #[zh #[St (zE q.num),St (zD q.den)],zj zm 0]):=by
 have d:=λj x=>zoh q (zO h.1 (by omega)) (zO h.2 (by omega)) j x;have e:=λj=>zbm q h j;generalize numS q=E at d e⊢;generalize zE q.num=m at d⊢;generalize zD q.den=l at d⊢;generalize q.num=D at e;generalize q.den=C at e;have o:=hid d;have p:=hid e;have r:=hid hw;clear d e hw h;go_enter Tryz.func140,Tryz.ntmps140;go_wp21;refine zzM (o _ (r.below ((zM _ w).alloc (zN _) _))) λb g=>?_;have k:qL w b:=((zM _ w).alloc (zN _) _).trans (g.mono (by simp));have z1:w.heap.size<b.heap.size:=by have:=g.size;simp at this;omega
 have n:b.heap[w.heap.size]? =zq (zn #[St [],St []] 213 (0,0)):=(g.block _ (by simp)).trans (zG w _);clear g;go_wp21;refine zzM (p _) λa c=>?_;have z2:b.heap.size<a.heap.size:=by have:=c.size;simp at this;omega
 have u:qL w a:=(k.alloc k.size _).trans (c.mono (by simp;omega));have f:a.heap[w.heap.size]? =zq (zn #[St [],St []] 213 (0,0)):=(c.block _ (by simp;omega)).trans ((Below.heap_alloc _ _ _ (by omega)).trans n);have i:a.heap[b.heap.size]? =zq (zn #[St m,St l] 213 (0,0)):=(c.block _ (by simp)).trans (zG b _);have A:a.cell? ⟨b.heap.size,0,zp⟩=zq (St m):=by simp[World.cell?,i]
 have B:a.cell? ⟨b.heap.size,1,zp⟩=zq (St l):=by simp[World.cell?,i]
 have s:a.cell? ⟨w.heap.size,0,zp⟩=zq (St []):=by simp[World.cell?,f]
 have t:a.cell? ⟨w.heap.size,1,zp⟩=zq (St []):=by simp[World.cell?,f]
 have y:a.frozen? ⟨w.heap.size,0,zp⟩=zu:=by simp[World.frozen?,f]
 have z:a.frozen? ⟨w.heap.size,1,zp⟩=zu:=by simp[World.frozen?,f]
 have z3:w.heap.size<a.heap.size:=by omega
 clear n k c i;go_wp21;refine bodyPost_ret (v:=ze #[zh #[St m,St l],zj zm 0]) (by simp[results,Tryz.results140,go_sem,s,t,z3]) rfl ⟨rfl,?_⟩
 repeat(first|exact u|exact zM _ _|refine Below.alloc ?_ (by simp[World.setCell]<;>omega) _|refine zao ?_ _|refine Below.setCell ?_ (by simp) _)
theorem zp1 (q:Rat) (h:¬zbb q) (n:okQ q) (z:q.den=1) (o:digs q.num<=800000) (p:(zD q.den).length<=800000) (w:zA) (hw:Wd w):
 qJ 140 #[St (numS q)] w (ze #[zh #[St (zE q.num),St (zD q.den)],zj zm 0]):=by
 have g:=λa I=>zoh q o p a I;have r:=λa=>zb5 q h o p a;obtain⟨d,l⟩:=zzX (⟨(zE q.num).toArray⟩:ByteArray);obtain⟨c,i⟩:=zzX (⟨(zD q.den).toArray⟩:ByteArray);obtain⟨t,s⟩:=zzX (⟨(zD q.num.natAbs).toArray⟩:ByteArray);have A:∀a:zA,zC zF 184 #[z8 d,z8 ⟨#[45]⟩] a λy L=>y=zo (z8 t)/\L=a:=by
  intro a;have:=Tryz.strings_TrimPrefix d ⟨#[45]⟩ a;rw[show d.data.toList=zE q.num from by rw[l],show(⟨#[45]⟩:ByteArray).data.toList=[45] from rfl,zbi] at this;rw[s];exact this
 have J:t.size=digs q.num:=by rw[s];exact zZ
 have K:c.size=(zD q.den).length:=by rw[i];exact zZ
 have R:¬(300:Int)<t.size:=by have:=n.1;omega
 have S:¬(300:Int)<c.size:=by have:=n.2;omega
 have T:(c.toList==[49])=zt:=by rw[zfo i,z,zae (by omega)];rfl
 have g:∀a,Wd a->qJ 182 #[St (numS q)] a (ze #[zh #[z8 d,z8 c],zg zt]):=by rw[l,i];exact g
 rw[show St (zE q.num)=z8 d from by rw[l],show St (zD q.den)=z8 c from by rw[i]];generalize numS q=Q at g r⊢;have B:=hid g;have C:=hid r;have D:=hid hw;have G:=hid A;clear g r hw h l i s A J K o p n z;go_enter Tryz.func140,Tryz.ntmps140;go_wp21;refine zzM (B _ (D.below ((zM _ w).alloc (zN _) _))) λe k=>?_;have m:qL w e:=((zM _ w).alloc (zN _) _).trans (k.mono (by simp));have z1:w.heap.size<e.heap.size:=by have:=k.size;simp at this;omega
 have x:e.heap[w.heap.size]? =zq (zn #[St [],St []] 213 (0,0)):=(k.block _ (by simp)).trans (zG w _);clear k;go_wp21;refine zzM (C _) λb f=>?_;have z2:e.heap.size<b.heap.size:=by have:=f.size;simp at this;omega
 have H:qL w b:=(m.alloc m.size _).trans (f.mono (by simp;omega));have j:b.heap[w.heap.size]? =zq (zn #[St [],St []] 213 (0,0)):=(f.block _ (by simp;omega)).trans ((Below.heap_alloc _ _ _ (by omega)).trans x);have u:b.heap[e.heap.size]? =zq (zn #[z8 d,z8 c] 213 (0,0)):=(f.block _ (by simp)).trans (zG e _);have O:b.cell? ⟨e.heap.size,0,zp⟩=zq (z8 d):=by simp[World.cell?,u]
 have P:b.cell? ⟨e.heap.size,1,zp⟩=zq (z8 c):=by simp[World.cell?,u]
 have E:b.cell? ⟨w.heap.size,0,zp⟩=zq (St []):=by simp[World.cell?,j]
 have F:b.cell? ⟨w.heap.size,1,zp⟩=zq (St []):=by simp[World.cell?,j]
 have M:b.frozen? ⟨w.heap.size,0,zp⟩=zu:=by simp[World.frozen?,j]
 have N:b.frozen? ⟨w.heap.size,1,zp⟩=zu:=by simp[World.frozen?,j]
 have z3:w.heap.size<b.heap.size:=by omega
 clear x m f;go_wp21;refine(G _).mono ?_;rintro y U ⟨rfl,rfl⟩;go_wp21;refine bodyPost_ret (v:=ze #[zh #[z8 d,z8 c],zj zm 0]) (by simp[results,Tryz.results140,go_sem,E,F,z3]) rfl ⟨rfl,?_⟩
 repeat(first|exact H|exact zM _ _|refine Below.alloc ?_ (by simp[World.setCell]<;>omega) _|refine zao ?_ _|refine Below.setCell ?_ (by simp) _)
theorem zoi (q:Rat) (h:¬zbb q) (n:okQ q) (N:q.den≠1) (B:digs q.num<=800000) (C:(zD q.den).length<=800000) (w:zA) (hw:Wd w):
 qJ 140 #[St (numS q)] w (ze #[zh #[St (zE q.num),St (zD q.den)],zj zm 0]):=by
 have m:=λa z=>zoh q B C a z;have D:=λa=>zb5 q h B C a;obtain⟨d,o⟩:=zzX (⟨(zE q.num).toArray⟩:ByteArray);obtain⟨c,i⟩:=zzX (⟨(zD q.den).toArray⟩:ByteArray);obtain⟨F,E⟩:=zzX (⟨(zD q.num.natAbs).toArray⟩:ByteArray);have P:∀a:zA,zC zF 184 #[z8 d,z8 ⟨#[45]⟩] a λM Y=>M=zo (z8 F)/\Y=a:=by
  intro a;have:=Tryz.strings_TrimPrefix d ⟨#[45]⟩ a;rw[show d.data.toList=zE q.num from by rw[o],show(⟨#[45]⟩:ByteArray).data.toList=[45] from rfl,zbi] at this;rw[E];exact this
 have W:F.size=digs q.num:=by rw[E];exact zZ
 have X:c.size=(zD q.den).length:=by rw[i];exact zZ
 have a0:¬(300:Int)<F.size:=by have:=n.1;omega
 have a1:¬(300:Int)<c.size:=by have:=n.2;omega
 have a2:(c.toList==[49])=zu:=zhl i 1 (by omega) N;have O:qK 185 #[z8 d,z8 c] (ze #[St [49],zj zm 0]):=by
  intro a z;have U:digs (q.den:Int)<=300:=n.2;have:=ztw q.num q.den n.1 U a z;rw[show(Int.gcd q.num (q.den:Int):Int)=1 from by have:=q.reduced;unfold Int.gcd;rw[yY];unfold Nat.Coprime at this;rw[this];rfl,zmn,Str.zad q.den] at this;rw[o,i];exact this
 have m:∀a,Wd a->qJ 182 #[St (numS q)] a (ze #[zh #[z8 d,z8 c],zg zt]):=by rw[o,i];exact m
 rw[show St (zE q.num)=z8 d from by rw[o],show St (zD q.den)=z8 c from by rw[i]];generalize numS q=Z at m D⊢;have R:=hid m;have S:=hid D;have I:=hid hw;have T:=hid P;have Q:=hid O;clear m D hw h o i E P O W X B C n N;go_enter Tryz.func140,Tryz.ntmps140;go_wp21;refine zzM (R _ (I.below ((zM _ w).alloc (zN _) _))) λe r=>?_;have x:qL w e:=((zM _ w).alloc (zN _) _).trans (r.mono (by simp));have z1:w.heap.size<e.heap.size:=by have:=r.size;simp at this;omega
 have L:e.heap[w.heap.size]? =zq (zn #[St [],St []] 213 (0,0)):=(r.block _ (by simp)).trans (zG w _);clear r;go_wp21;refine zzM (S _) λb k=>?_;have z2:e.heap.size<b.heap.size:=by have:=k.size;simp at this;omega
 have y:qL w b:=(x.alloc x.size _).trans (k.mono (by simp;omega));have g:b.heap[w.heap.size]? =zq (zn #[St [],St []] 213 (0,0)):=(k.block _ (by simp;omega)).trans ((Below.heap_alloc _ _ _ (by omega)).trans L);have p:b.heap[e.heap.size]? =zq (zn #[z8 d,z8 c] 213 (0,0)):=(k.block _ (by simp)).trans (zG e _);have J:b.cell? ⟨e.heap.size,0,zp⟩=zq (z8 d):=by simp[World.cell?,p]
 have K:b.cell? ⟨e.heap.size,1,zp⟩=zq (z8 c):=by simp[World.cell?,p]
 have t:b.cell? ⟨w.heap.size,0,zp⟩=zq (St []):=by simp[World.cell?,g]
 have u:b.cell? ⟨w.heap.size,1,zp⟩=zq (St []):=by simp[World.cell?,g]
 have G:b.frozen? ⟨w.heap.size,0,zp⟩=zu:=by simp[World.frozen?,g]
 have H:b.frozen? ⟨w.heap.size,1,zp⟩=zu:=by simp[World.frozen?,g]
 have z3:w.heap.size<b.heap.size:=by omega
 clear L x k;go_wp21;refine(T _).mono ?_;rintro M f ⟨rfl,rfl⟩;go_wp21;have A:qL w (b.alloc (zn #[zj zm 0,zj zm 0] 219)):=y.alloc y.size _;refine zzM (Q _ (I.below A)) λf l=>?_;have z4:b.heap.size<f.heap.size:=by have:=l.size;simp at this;omega
 have V:=A.trans (l.mono (by simp;omega));have j:f.heap[w.heap.size]? =zq (zn #[St [],St []] 213 (0,0)):=(l.block _ (by simp;omega)).trans ((Below.heap_alloc _ _ _ (by omega)).trans g);have s:f.heap[e.heap.size]? =zq (zn #[z8 d,z8 c] 213 (0,0)):=(l.block _ (by simp;omega)).trans ((Below.heap_alloc _ _ _ (by omega)).trans p);clear J K t u G H;have J:f.cell? ⟨e.heap.size,0,zp⟩=zq (z8 d):=by simp[World.cell?,s]
 have K:f.cell? ⟨e.heap.size,1,zp⟩=zq (z8 c):=by simp[World.cell?,s]
 have t:f.cell? ⟨w.heap.size,0,zp⟩=zq (St []):=by simp[World.cell?,j]
 have u:f.cell? ⟨w.heap.size,1,zp⟩=zq (St []):=by simp[World.cell?,j]
 have G:f.frozen? ⟨w.heap.size,0,zp⟩=zu:=by simp[World.frozen?,j]
 have H:f.frozen? ⟨w.heap.size,1,zp⟩=zu:=by simp[World.frozen?,j]
 have a3:w.heap.size<f.heap.size:=by omega
 clear g p j s l A y;go_wp21;refine bodyPost_ret (v:=ze #[zh #[z8 d,z8 c],zj zm 0]) (by simp[results,Tryz.results140,go_sem,t,u]) rfl ⟨rfl,?_⟩
 repeat(first|exact V|exact zM _ _|refine Below.alloc ?_ (by simp[World.setCell,World.drewN]<;>omega) _|refine zao ?_ _|refine Below.setCell ?_ (by simp) _)
theorem zek (q:Rat) (h:okQ q) (w:zA) (hw:Wd w):
 qJ 140 #[St (numS q)] w (ze #[zh #[St (zE q.num),St (zD q.den)],zj zm 0]):=by
 by_cases hs:zbb q
 ·exact zu2 q hs w hw
 ·by_cases hd:q.den=1
  ·exact zp1 q hs h hd (zO h.1 (by omega)) (zO h.2 (by omega)) w hw
  ·exact zoi q hs h hd (zO h.1 (by omega)) (zO h.2 (by omega)) w hw
theorem zfj (q:Rat) (h:okQ q) (w:zA) (hw:Wd w):
 qJ 104 #[St (numS q)] w (zj zm 0):=by
 have a:=λd e=>zek q h d e;generalize numS q=f at a⊢;have c:=hid a;clear a h;go_enter Tryz.func104,Tryz.ntmps104;go_wp21;refine zzM (c _ hw) λg b=>?_;go_wp21;go_ret;exact⟨rfl,b.alloc b.size _⟩
theorem zww (a:List UInt8):z8 ((⟨#[45]⟩:ByteArray)++(⟨a.toArray⟩:ByteArray))=St (45::a):=by
 congr 1
theorem zk3 (x:Int) (i:digs x<=800000) (w:zA):
 qJ 192 #[St (zE x)] w (St (zE (-x))):=by
 obtain⟨b,a⟩:=zzX (⟨(zE x).toArray⟩:ByteArray);obtain⟨l,f⟩:=zzX (⟨(zD x.natAbs).toArray⟩:ByteArray);have c:∀h:zA,zC zF 223 #[z8 b,z8 ⟨#[45]⟩] h λd o=>d=zo (ze #[z8 l,zg (decide (x<0))])/\o=h:=by
  intro h;have:=Tryz.strings_CutPrefix b ⟨#[45]⟩ h;rw[show b.data.toList=zE x from by rw[a],show(⟨#[45]⟩:ByteArray).data.toList=[45] from rfl,zbi,zdx] at this;rw[f];exact this
 have q:b.size<=800001:=by
  rw[a];show(zE x).toArray.size<=_;have:=za7 x;simp;omega
 have g:=hid c;rw[show St (zE x)=z8 b from by rw[a]];rcases Int.lt_trichotomy x 0 with j|m|n
 ·have e:St (zE (-x))=z8 l:=by rw[f,show-x=((x.natAbs:Nat):Int) from by omega,Str.zad]
  have k:(b.toList==[48])=zu:=by
   rw[beq_eq_false_iff_ne,zfo a];intro d;have:=zdo (d.trans zb9.symm);omega
  rw[e];rw[decide_eq_true j] at c;have g:=hid c;clear e a f c j i;go_enter Tryz.func192,Tryz.ntmps192;go_wp21;refine(g _).mono ?_;rintro d p ⟨rfl,rfl⟩;go_wp21;go_ret;exact⟨rfl,zM _ _⟩
 ·subst m
  have k:(b.toList==[48])=zt:=by rw[zfo a,zb9];rfl
  rw[show-(0:Int)=0 from rfl,show St (zE 0)=z8 b from by rw[a]];clear a f c i;go_enter Tryz.func192,Tryz.ntmps192;go_wp21;go_ret;exact⟨rfl,zM _ _⟩
 ·have e:St (zE (-x))=z8 ((⟨#[45]⟩:ByteArray)++b):=by
   rw[a,zww,show x=((x.natAbs:Nat):Int) from by omega,Str.zga _ (by omega),Str.zad]
  have k:(b.toList==[48])=zu:=by
   rw[beq_eq_false_iff_ne,zfo a];intro d;have:=zdo (d.trans zb9.symm);omega
  rw[e];rw[decide_eq_false (by omega)] at c;have g:=hid c;clear e a f c n i;go_enter Tryz.func192,Tryz.ntmps192;go_wp21;refine(g _).mono ?_;rintro d p ⟨rfl,rfl⟩;go_wp21;go_ret;exact⟨rfl,zM _ _⟩
theorem zg1 (a b g f i m l k:ByteArray) (neg:Bool) (r:∀o:zA,zC zF 172 #[z8 b,z8 ⟨#[45]⟩] o λe w'=>e=zo (zg neg)/\w'=o)
 (z:(neg=zu/\g=a/\f=b)\/(neg=zt/\Hid (qK 192 #[z8 a] (z8 g))/\
   Hid (qK 192 #[z8 b] (z8 f))))
 (q:qK 185 #[z8 g,z8 f] (ze #[z8 i,zj zm 0]))
 (h:((i.toList==[49])=zt/\(f.toList==[49])=zt/\k=g)\/((i.toList==[49])=zt/\(f.toList==[49])=zu/\g.size<=400/\f.size<=400/\k=g++⟨#[47]⟩++f)\/
   ((i.toList==[49])=zu/\Hid (qK 193 #[z8 g,z8 i] (ze #[z8 m,St [48],zj zm 0]))/\
     Hid (qK 193 #[z8 f,z8 i] (ze #[z8 l,St [48],zj zm 0]))/\
     (((l.toList==[49])=zt/\k=m)\/((l.toList==[49])=zu/\m.size<=400/\l.size<=400/\k=m++⟨#[47]⟩++l))))
 (w:zA) (hw:Wd w):
 qJ 146 #[z8 a,z8 b] w (ze #[z8 k,zj zm 0]):=by
 have v:=hid r;have u:=hid q;have j:=hid hw;clear r q hw;rcases z with⟨rfl,rfl,rfl⟩|⟨rfl,x,y⟩<;>rcases h with⟨p,n,rfl⟩|⟨p,n,z1,z2,rfl⟩|⟨p,t,s,⟨n,rfl⟩|⟨n,z1,z2,rfl⟩⟩
 all_goals
  have c:=hid (zM w.heap.size w);go_enter Tryz.func146,Tryz.ntmps146;go_wp21;refine(v _).mono ?_;rintro e A ⟨rfl,rfl⟩;go_wp21
  try
   refine zzM (x _ (j.below c.out)) λB d=>?_;replace c:=qT c d;clear d;go_wp21;refine zzM (y _ (j.below c.out)) λC d=>?_;replace c:=qT c d;clear d;go_wp21
  refine zzM (u _ (j.below c.out)) λD d=>?_;replace c:=qT c d;clear d;go_wp21
  try
   refine zzM (t _ (j.below c.out)) λE d=>?_;replace c:=qT c d;clear d;go_wp21;refine zzM (s _ (j.below c.out)) λF d=>?_;replace c:=qT c d;clear d;go_wp21
  go_ret2;exact⟨rfl,c.out⟩
theorem zgf {l:List UInt8} {s:ByteArray} (h:s=⟨l.toArray⟩):St l=z8 s:=by rw[h]
theorem zh2 {n:Int} {a:ByteArray} (d:a=⟨(zE n).toArray⟩) (b:Bool) (h:(n=1)↔b=zt):(a.toList==[49])=b:=by
 rw[zfo d]
 cases b with
 |true=>rw[beq_iff_eq,h.2 rfl,zmn]
 |false=>rw[beq_eq_false_iff_ne];intro c;exact absurd (h.1 (zdo (c.trans zmn.symm))) (by simp)
theorem zj2 {x y:Int} (h:x.natAbs<=y.natAbs):digs x<=digs y:=by
 unfold digs;have a:=(zaf y.natAbs (digs y) (zbn y)).1 (zN _);exact(zaf x.natAbs (digs y) (zbn y)).2 (Nat.lt_of_le_of_lt h a)
theorem zfa (x y:Int) (hy:y≠0) (M:digs x<=300) (N:digs y<=300) (w:zA) (hw:Wd w):
 qJ 146 #[St (zE x),St (zE y)] w (ze #[St (numS (Rat.divInt x y)),zj zm 0]):=by
 obtain⟨q,ha⟩:=zzX (⟨(zE x).toArray⟩:ByteArray);obtain⟨i,s⟩:=zzX (⟨(zE y).toArray⟩:ByteArray);rw[zgf ha,zgf s];have a1:∀d:zA,zC zF 172 #[z8 i,z8 ⟨#[45]⟩] d λS a7=>S=zo (zg (decide (y<0)))/\a7=d:=by
  intro d;have:=Tryz.strings_HasPrefix i ⟨#[45]⟩ d;rw[show i.data.toList=zE y from by rw[s],show(⟨#[45]⟩:ByteArray).data.toList=[45] from rfl,zdx] at this;exact this
 have O:∀c a:Int,0<a->Rat.divInt c a=Rat.divInt x y->digs c<=300->digs a<=300->(∀g h:ByteArray,g=⟨(zE c).toArray⟩->h=⟨(zE a).toArray⟩->(decide (y<0)=zu/\g=q/\h=i)\/(decide (y<0)=zt/\Hid (qK 192 #[z8 q] (z8 g))/\
  Hid (qK 192 #[z8 i] (z8 h))))->
  qJ 146 #[z8 q,z8 i] w (ze #[St (numS (Rat.divInt x y)),zj zm 0]):=by
  intro c a G V r m R;obtain⟨b,n⟩:=zzX (Int.gcd c a:Nat);have a8:0<b:=by rw[n];exact Int.gcd_pos_of_ne_zero_right _ (by omega)
  have I:(b:Int)∣c:=by rw[n];exact Int.gcd_dvd_left _ _
  have E:(b:Int)∣a:=by rw[n];exact Int.gcd_dvd_right _ _
  have k:=zif c a G;rw[V,<-n] at k;have W:c=c/(b:Int)*b:=(Int.ediv_mul_cancel I).symm;have X:a=a/(b:Int)*b:=(Int.ediv_mul_cancel E).symm;have a4:digs (c/(b:Int))<=300:=zO (zj2 (by rw[Int.natAbs_ediv_of_dvd I];exact Nat.div_le_self _ _)) r;have a3:digs (a/(b:Int))<=300:=zO (zj2 (by rw[Int.natAbs_ediv_of_dvd E];exact Nat.div_le_self _ _)) m;have H:digs (b:Int)<=300:=zO (zj2 (by have:=Int.le_of_dvd G E;omega)) m;have z:∀(p:Int) (B:ByteArray),B=⟨(zE p).toArray⟩->digs p<=300->B.size<=400:=by
   intro p B a6 a9;have D:=za7 p;have:B.size=(zE p).length:=by rw[a6];exact zZ
   omega
  obtain⟨g,f⟩:=zzX (⟨(zE c).toArray⟩:ByteArray);obtain⟨h,e⟩:=zzX (⟨(zE a).toArray⟩:ByteArray);obtain⟨C,u⟩:=zzX (⟨(zE (b:Int)).toArray⟩:ByteArray);obtain⟨Q,v⟩:=zzX (⟨(zE (c/(b:Int))).toArray⟩:ByteArray);obtain⟨P,o⟩:=zzX (⟨(zE (a/(b:Int))).toArray⟩:ByteArray);have a0:qK 185 #[z8 g,z8 h] (ze #[z8 C,zj zm 0]):=by
   intro d l;have:=ztw c a r m d l;rw[f,e,u,n];exact this
  have Z:qK 193 #[z8 g,z8 C] (ze #[z8 Q,St [48],zj zm 0]):=by
   intro d l;have:=zky c b _ W (by omega) r H d l;rw[f,u,v];exact this
  have Y:qK 193 #[z8 h,z8 C] (ze #[z8 P,St [48],zj zm 0]):=by
   intro d l;have:=zky a b _ X (by omega) m H d l;rw[e,u,o];exact this
  have a5:∃A:ByteArray,St (numS (Rat.divInt x y))=z8 A:=⟨_,rfl⟩;obtain⟨A,K⟩:=a5;rw[K];refine zg1 q i g h C Q P A _ a1 (R g h f e) a0 ?_ w hw;have L:=λi j=>zh2 u i j;have t:∀F:ByteArray,z8 F=St (numS (Rat.divInt x y))->A=F:=λF j=>by rw[K] at j;injection j with j;exact j.symm
  by_cases hg1:b=1
  ·have T:c/(b:Int)=c:=by rw[hg1];exact Int.ediv_one c
   have U:a/(b:Int)=a:=by rw[hg1];exact Int.ediv_one a
   rw[T,U] at k;have D:=L zt (by simp[hg1]);by_cases hY1:a=1
   ·refine .inl ⟨D,zh2 e zt (by simp[hY1]),t _ ?_⟩
    rw[k,if_pos hY1,List.append_nil,f]
   ·refine .inr (.inl ⟨D,zh2 e zu (by simp[hY1]),z _ _ f r,z _ _ e m,t _ ?_⟩)
    rw[k,if_neg hY1,f,e,zik]
  ·refine .inr (.inr ⟨L zu (by simp;omega),hid Z,hid Y,?_⟩)
   by_cases hY1:a/(b:Int)=1
   ·refine .inl ⟨zh2 o zt (by simp[hY1]),t _ ?_⟩
    rw[k,if_pos hY1,List.append_nil,v]
   ·refine .inr ⟨zh2 o zu (by simp[hY1]),z _ _ v a4,z _ _ o a3,t _ ?_⟩
    rw[k,if_neg hY1,v,o,zik]
 rcases Int.lt_or_lt_of_ne hy with J|a2
 ·refine O (-x) (-y) (by omega) ?_ (by unfold digs at*;rw[Int.natAbs_neg];exact M) (by unfold digs at*;rw[Int.natAbs_neg];exact N) (λg h f e=>.inr ⟨decide_eq_true J,hid λd _=>?_,hid λd _=>?_⟩)
  ·rw[zjd x y J,show-y=((y.natAbs:Nat):Int) from by omega]
  ·rw[ha,f];exact zk3 x (by omega) d
  ·rw[s,e];exact zk3 y (by omega) d
 ·exact O x y a2 rfl M N λg h f e=>.inl ⟨decide_eq_false (by omega),by rw[f,ha],by rw[e,s]⟩
theorem zbs {x y:Int} (d: -100000000<x/\x<100000000) (hy: -100000000<y/\y<100000000): -10000000000000000<x*y/\x*y<10000000000000000:=by
 have a:x.natAbs<=99999999:=by omega
 have b:y.natAbs<=99999999:=by omega
 have c:(x*y).natAbs<=99999999*99999999:=by rw[Int.natAbs_mul];exact Nat.mul_le_mul a b
 omega
theorem nadd (c a d b:Int) (a1: -100000000<c/\c<100000000) (e: -100000000<a/\a<100000000) (f: -100000000<d/\d<100000000) (b2: -100000000<b/\b<100000000) (w:zA):
 qJ 241 #[zh #[zj zm c,zj zm a],zh #[zj zm d,zj zm b]] w (zh #[zj zm (c*b+d*a),zj zm (a*b)]):=by
 have g:=zbs a1 b2;have j:zm.wrap (c*b)=c*b:=zI _ (by omega);have h:=zbs f e;have k:zm.wrap (d*a)=d*a:=zI _ (by omega);have i:=zbs e b2;have l:zm.wrap (a*b)=a*b:=zI _ (by omega);have m:zm.wrap (c*b+d*a)=c*b+d*a:=zI _ (by omega);clear g h i;clear a1 e f b2;go_enter Tryz.func241,Tryz.ntmps241;go_wp21;refine bodyPost_ret (v:=zh #[zj zm (c*b+d*a),zj zm (a*b)]) (by simp[results,Tryz.results241,go_sem]) rfl ⟨rfl,?_⟩
 repeat(first|exact zM _ _|refine Below.alloc ?_ (by simp<;>omega) _|refine zao ?_ _|refine Below.setCell ?_ (by simp<;>omega) _)
theorem nsub (c a d b:Int) (a1: -100000000<c/\c<100000000) (e: -100000000<a/\a<100000000) (f: -100000000<d/\d<100000000) (b2: -100000000<b/\b<100000000) (w:zA):
 qJ 179 #[zh #[zj zm c,zj zm a],zh #[zj zm d,zj zm b]] w (zh #[zj zm (c*b-d*a),zj zm (a*b)]):=by
 have g:=zbs a1 b2;have j:zm.wrap (c*b)=c*b:=zI _ (by omega);have h:=zbs f e;have k:zm.wrap (d*a)=d*a:=zI _ (by omega);have i:=zbs e b2;have l:zm.wrap (a*b)=a*b:=zI _ (by omega);have m:zm.wrap (c*b-d*a)=c*b-d*a:=zI _ (by omega);clear g h i;clear a1 e f b2;go_enter Tryz.func179,Tryz.ntmps179;go_wp21;refine bodyPost_ret (v:=zh #[zj zm (c*b-d*a),zj zm (a*b)]) (by simp[results,Tryz.results179,go_sem]) rfl ⟨rfl,?_⟩
 repeat(first|exact zM _ _|refine Below.alloc ?_ (by simp<;>omega) _|refine zao ?_ _|refine Below.setCell ?_ (by simp<;>omega) _)
theorem nmul (c a d b:Int) (a1: -100000000<c/\c<100000000) (f: -100000000<a/\a<100000000) (e: -100000000<d/\d<100000000) (b2: -100000000<b/\b<100000000) (w:zA):
 qJ 142 #[zh #[zj zm c,zj zm a],zh #[zj zm d,zj zm b]] w (zh #[zj zm (c*d),zj zm (a*b)]):=by
 have g:=zbs a1 e;have i:zm.wrap (c*d)=c*d:=zI _ (by omega);have h:=zbs f b2;have j:zm.wrap (a*b)=a*b:=zI _ (by omega);clear g h;clear a1 f e b2;go_enter Tryz.func142,Tryz.ntmps142;go_wp21;refine bodyPost_ret (v:=zh #[zj zm (c*d),zj zm (a*b)]) (by simp[results,Tryz.results142,go_sem]) rfl ⟨rfl,?_⟩
 repeat(first|exact zM _ _|refine Below.alloc ?_ (by simp<;>omega) _|refine zao ?_ _|refine Below.setCell ?_ (by simp<;>omega) _)
theorem ndiv (c a d b:Int) (a1: -100000000<c/\c<100000000) (f: -100000000<a/\a<100000000) (e: -100000000<d/\d<100000000) (b2: -100000000<b/\b<100000000) (w:zA):
 qJ 156 #[zh #[zj zm c,zj zm a],zh #[zj zm d,zj zm b]] w (zh #[zj zm (c*b),zj zm (a*d)]):=by
 have g:=zbs a1 b2;have i:zm.wrap (c*b)=c*b:=zI _ (by omega);have h:=zbs f e;have j:zm.wrap (a*d)=a*d:=zI _ (by omega);clear g h;clear a1 f e b2;go_enter Tryz.func156,Tryz.ntmps156;go_wp21;refine bodyPost_ret (v:=zh #[zj zm (c*b),zj zm (a*d)]) (by simp[results,Tryz.results156,go_sem]) rfl ⟨rfl,?_⟩
 repeat(first|exact zM _ _|refine Below.alloc ?_ (by simp<;>omega) _|refine zao ?_ _|refine Below.setCell ?_ (by simp<;>omega) _)
theorem zhc (f b:Int) (a c:Nat) (A:digs f<=300) (B:digs b<=300) (C:(zD a).length<=300) (D:(zD c).length<=300) (t:digs (f*c)<=300) (w:zA) (hw:Wd w):
 zC zF 158 #[zh #[St (zE f),St (zD a)],zh #[St (zE b),St (zD c)]] w λe w'=>
  e=zo (ze #[St (zE (f*c)),St (resL (b*a)),zj zm (resE (b*a))])/\zB w.heap.size w w':=by
 have h:=λp s=>zhk f c A (by unfold digs;rw[yY];exact D) p s;have d:=λp s=>zhk b a B (by unfold digs;rw[yY];exact C) p s;rw[zcf t,zcg t,Str.zad] at h;rw[Str.zad] at d;generalize zE f=m at h⊢;generalize zE b=i at d⊢;generalize zD a=j at d⊢;generalize zD c=n at h⊢;generalize zE (f*c)=L at h⊢;generalize resL (b*a)=M at d⊢;generalize resE (b*a)=O at d⊢;have I:=hid h;have J:=hid d;have z:=hid hw;clear h d hw A B C D t;obtain⟨k,g⟩:=zzX ((w.alloc (zn #[St m,St j] 213)).alloc (zn #[St i,St n] 213));have q:qL w k:=by rw[g];exact((zM _ w).alloc (zN _) _).alloc (by simp) _
 have z0:k.heap.size=w.heap.size+1+1:=by rw[g];simp
 have u:k.heap[w.heap.size]? =zq (zn #[St m,St j] 213 (0,0)):=by
  rw[g];exact(Below.heap_alloc _ _ _ (by simp only[zH];omega)).trans (zG w _)
 have x:k.heap[w.heap.size+1]? =zq (zn #[St i,St n] 213 (0,0)):=by
  have:=zG (w.alloc (zn #[St m,St j] 213)) (zn #[St i,St n] 213 (0,0));rw[zH] at this;rw[g];exact this
 have H:=hid g;clear g;go_enter Tryz.func158,Tryz.ntmps158;go_wp21;rw[<-H.out];refine zzM (I _ (z.below q)) λo l=>?_;have r:=q.trans (l.mono q.size);have v:o.heap[w.heap.size]? =zq (zn #[St m,St j] 213 (0,0)):=(l.block _ (by omega)).trans u;have y:o.heap[w.heap.size+1]? =zq (zn #[St i,St n] 213 (0,0)):=(l.block _ (by omega)).trans x;have F:o.cell? ⟨w.heap.size,1,zp⟩=zq (St j):=by simp[World.cell?,v]
 have G:o.cell? ⟨w.heap.size+1,0,zp⟩=zq (St i):=by simp[World.cell?,y]
 clear l u x z0;go_wp21;refine zzM (J _ (z.below r)) λN E=>?_;have K:=r.trans (E.mono r.size);clear E v y F G;go_wp21;go_ret3;exact⟨rfl,K⟩
theorem zd9 (n:Nat):digs (n:Int)=(zD n).length:=by unfold digs;rw[yY]
def zb1 (q:Rat):Value:=zh #[St (zE q.num),St (zD q.den)]
theorem zt7 (a b:Rat) (ha:okQ a) (v:okQ b) (l:digs (a.num*b.num)<=300) (B:(zD (a.den*b.den)).length<=300) (w:zA) (hw:Wd w):
 qJ 144 #[zb1 a,zb1 b] w (ze #[St (numS (a*b)),zj zm 0]):=by
 have f:=λg h=>zhk a.num b.num ha.1 v.1 g h;have c:=λg h=>zhk (a.den:Int) (b.den:Int) (by rw[zd9];exact ha.2) (by rw[zd9];exact v.2) g h;rw[<-xE,Str.zad,Str.zad] at c;have m:digs ((a.den*b.den:Nat):Int)<=300:=by rw[zd9];exact B
 rw[zcf l,zcg l] at f;rw[zcf m,zcg m] at c;have e:=λg h=>zfa (a.num*b.num) ((a.den*b.den:Nat):Int) (by have:=Nat.mul_pos a.den_pos b.den_pos;omega) l m g h;rw[<-zf1] at e;unfold zb1;generalize zE a.num=o at f⊢;generalize zE b.num=p at f⊢;generalize zD a.den=i at c⊢;generalize zD b.den=j at c⊢;generalize zE (a.num*b.num)=M at f e;generalize zE ((a.den*b.den:Nat):Int)=N at c e;generalize numS (a*b)=L at e⊢;have I:=hid f;have J:=hid c;have G:=hid e;have r:=hid hw;clear f c e hw l B m ha v;obtain⟨k,d⟩:=zzX ((w.alloc (zn #[St o,St i] 213)).alloc (zn #[St p,St j] 213));have s:qL w k:=by rw[d];exact((zM _ w).alloc (zN _) _).alloc (by simp) _
 have z0:k.heap.size=w.heap.size+1+1:=by rw[d];simp
 have x:k.heap[w.heap.size]? =zq (zn #[St o,St i] 213 (0,0)):=by
  rw[d];exact(Below.heap_alloc _ _ _ (by simp only[zH];omega)).trans (zG w _)
 have z:k.heap[w.heap.size+1]? =zq (zn #[St p,St j] 213 (0,0)):=by
  have:=zG (w.alloc (zn #[St o,St i] 213)) (zn #[St p,St j] 213 (0,0));rw[zH] at this;rw[d];exact this
 have H:=hid d;clear d;go_enter Tryz.func144,Tryz.ntmps144;go_wp21;rw[<-H.out];refine zzM (I _ (r.below s)) λq n=>?_;have t:=s.trans (n.mono s.size);have y:q.heap[w.heap.size]? =zq (zn #[St o,St i] 213 (0,0)):=(n.block _ (by omega)).trans x;have A:q.heap[w.heap.size+1]? =zq (zn #[St p,St j] 213 (0,0)):=(n.block _ (by omega)).trans z;have E:q.cell? ⟨w.heap.size,1,zp⟩=zq (St i):=by simp[World.cell?,y]
 have F:q.cell? ⟨w.heap.size+1,1,zp⟩=zq (St j):=by simp[World.cell?,A]
 clear n x z z0;go_wp21;refine zzM (J _ (r.below t)) λO C=>?_;have u:=t.trans (C.mono t.size);clear C y A E F;go_wp21;refine zzM (G _ (r.below u)) λP D=>?_;have K:=u.trans (D.mono u.size);clear D;go_wp21;go_ret2;exact⟨rfl,K⟩
theorem z1o (a b:Rat) (m:b≠0) (ha:okQ a) (l:okQ b) (g:digs (a.num*b.den)<=300) (e:digs (b.num*a.den)<=300) (w:zA) (hw:Wd w):
 qJ 157 #[zb1 a,zb1 b] w (ze #[St (numS (a/b)),zj zm 0]):=by
 have c:=λf k=>zhc a.num b.num a.den b.den ha.1 l.1 ha.2 l.2 g f k;rw[zcf e,zcg e] at c;have n:b.num≠0:=λz=>m (Rat.num_eq_zero.1 z);have s:b.num*(a.den:Int)≠0:=Int.mul_ne_zero n (by have:=a.den_pos;omega);have d:=λf k=>zfa (a.num*b.den) (b.num*a.den) s g e f k;rw[Int.mul_comm b.num,<-zjx a b m,Int.mul_comm (a.den:Int)] at d;have t:((⟨(zE b.num).toArray⟩:ByteArray).toList==[48])=zu:=by
  rw[beq_eq_false_iff_ne,ByteArray.toList_eq];intro y;exact n (zdo ((show zE b.num=[48] from by simpa using y).trans zb9.symm))
 unfold zb1;generalize zE a.num=B at c⊢;generalize zE b.num=u at c t⊢;generalize zD a.den=C at c⊢;generalize zD b.den=D at c⊢;generalize zE (a.num*b.den)=F at c d;generalize zE (b.num*a.den)=G at c d;generalize numS (a/b)=E at d⊢;obtain⟨p,j⟩:=zzX (⟨u.toArray⟩:ByteArray);rw[show St u=z8 p from by rw[j]] at c⊢;rw[<-j] at t;have x:=hid c;have v:=hid d;have o:=hid hw;clear c d hw g e ha l j n s m;have h:qL w ((w.alloc (zn #[St B,St C] 213)).alloc (zn #[z8 p,St D] 213)):=((zM _ w).alloc (zN _) _).alloc (by simp) _;go_enter Tryz.func157,Tryz.ntmps157;go_wp21;refine zzM (x _ (o.below h)) λH q=>?_;have i:=h.trans (q.mono h.size);clear q;go_wp21;refine zzM (v _ (o.below i)) λI r=>?_;have A:=i.trans (r.mono i.size);clear r;go_wp21;go_ret2;exact⟨rfl,A⟩
theorem zy8 (a b:Rat) (ha:okQ a) (x:okQ b) (C:digs (a.num*b.den)<=300) (s:digs (b.num*a.den)<=300) (t:digs (a.num*b.den+b.num*a.den)<=300) (M:(zD (a.den*b.den)).length<=300)
 (c:Nat) (w:zA) (z:w.cell? ⟨c,0,zp⟩=zq (.func (.func 194) #[] #[])) (hw:Wd w):
 qJ 220 #[zb1 a,zb1 b,zf (zq ⟨c,0,zp⟩)] w (ze #[St (numS (a+b)),zj zm 0]):=by
 have d:=λe f=>zhc a.num b.num a.den b.den ha.1 x.1 ha.2 x.2 C e f;rw[zcf s,zcg s] at d;have j:=λe f=>z1c (a.num*b.den) (b.num*a.den) C s e f;rw[zcf t,zcg t] at j;have g:=λe f=>zhk (a.den:Int) (b.den:Int) (by rw[zd9];exact ha.2) (by rw[zd9];exact x.2) e f;rw[<-xE,Str.zad,Str.zad] at g;have u:digs ((a.den*b.den:Nat):Int)<=300:=by rw[zd9];exact M
 rw[zcf u,zcg u] at g;have i:=λe f=>zfa (a.num*b.den+b.num*a.den) ((a.den*b.den:Nat):Int) (by have:=Nat.mul_pos a.den_pos b.den_pos;omega) t u e f;rw[<-zf0] at i;unfold zb1;generalize zE a.num=o at d⊢;generalize zE b.num=q at d⊢;generalize zD a.den=k at d g⊢;generalize zD b.den=l at d g⊢;generalize zE (a.num*b.den+b.num*a.den)=a1 at j i;generalize zE (a.num*b.den)=a2 at d j;generalize zE (b.num*a.den)=a3 at d j;generalize zE ((a.den*b.den:Nat):Int)=a4 at g i;generalize numS (a+b)=a0 at i⊢;have V:=hid d;have W:=hid g;have X:=hid j;have T:=hid i;have r:=hid hw;clear d g j i hw C s t M u ha x;have P:=zbe z;dsimp only at P;obtain⟨m,h⟩:=zzX ((w.alloc (zn #[St o,St k] 213)).alloc (zn #[St q,St l] 213));have D:qL w m:=by rw[h];exact((zM _ w).alloc (zN _) _).alloc (by simp) _
 have z0:m.heap.size=w.heap.size+1+1:=by rw[h];simp
 have G:m.heap[w.heap.size]? =zq (zn #[St o,St k] 213 (0,0)):=by
  rw[h];exact(Below.heap_alloc _ _ _ (by simp only[zH];omega)).trans (zG w _)
 have J:m.heap[w.heap.size+1]? =zq (zn #[St q,St l] 213 (0,0)):=by
  have:=zG (w.alloc (zn #[St o,St k] 213)) (zn #[St q,St l] 213 (0,0));rw[zH] at this;rw[h];exact this
 have U:=hid h;clear h;go_enter Tryz.func220,Tryz.ntmps220;go_wp21;rw[<-U.out];refine zzM (V _ (r.below D)) λA n=>?_;have v:=D.trans (n.mono D.size);have H:A.heap[w.heap.size]? =zq (zn #[St o,St k] 213 (0,0)):=(n.block _ (by omega)).trans G;have K:A.heap[w.heap.size+1]? =zq (zn #[St q,St l] 213 (0,0)):=(n.block _ (by omega)).trans J;have z4:m.heap.size<=A.heap.size:=n.size;have S:A.cell? ⟨c,0,zp⟩=zq (.func (.func 194) #[] #[]):=by rw[v.cell (p:=⟨c,0,zp⟩) P];exact z
 have Z:=hid z;clear z;clear n G J;go_wp21;refine zzM (X _ (r.below v)) λB y=>?_;have E:=v.trans (y.mono v.size);have I:B.heap[w.heap.size]? =zq (zn #[St o,St k] 213 (0,0)):=(y.block _ (by omega)).trans H;have L:B.heap[w.heap.size+1]? =zq (zn #[St q,St l] 213 (0,0)):=(y.block _ (by omega)).trans K;have Q:B.cell? ⟨w.heap.size,1,zp⟩=zq (St k):=by simp[World.cell?,I]
 have R:B.cell? ⟨w.heap.size+1,1,zp⟩=zq (St l):=by simp[World.cell?,L]
 clear y H K S I L;go_wp21;refine zzM (W _ (r.below E)) λa5 N=>?_;have F:=E.trans (N.mono E.size);clear N Q R;go_wp21;refine zzM (T _ (r.below F)) λa6 O=>?_;have Y:=F.trans (O.mono F.size);clear O;go_wp21;go_ret2;exact⟨rfl,Y⟩
theorem zy9 (a b:Rat) (ha:okQ a) (x:okQ b) (C:digs (a.num*b.den)<=300) (s:digs (b.num*a.den)<=300) (t:digs (a.num*b.den-b.num*a.den)<=300) (M:(zD (a.den*b.den)).length<=300)
 (c:Nat) (w:zA) (z:w.cell? ⟨c,0,zp⟩=zq (.func (.func 181) #[] #[])) (hw:Wd w):
 qJ 220 #[zb1 a,zb1 b,zf (zq ⟨c,0,zp⟩)] w (ze #[St (numS (a-b)),zj zm 0]):=by
 have d:=λe f=>zhc a.num b.num a.den b.den ha.1 x.1 ha.2 x.2 C e f;rw[zcf s,zcg s] at d;have j:=λe f=>z1e (a.num*b.den) (b.num*a.den) C s e f;rw[zcf t,zcg t] at j;have g:=λe f=>zhk (a.den:Int) (b.den:Int) (by rw[zd9];exact ha.2) (by rw[zd9];exact x.2) e f;rw[<-xE,Str.zad,Str.zad] at g;have u:digs ((a.den*b.den:Nat):Int)<=300:=by rw[zd9];exact M
 rw[zcf u,zcg u] at g;have i:=λe f=>zfa (a.num*b.den-b.num*a.den) ((a.den*b.den:Nat):Int) (by have:=Nat.mul_pos a.den_pos b.den_pos;omega) t u e f;rw[<-znk] at i;unfold zb1;generalize zE a.num=o at d⊢;generalize zE b.num=q at d⊢;generalize zD a.den=k at d g⊢;generalize zD b.den=l at d g⊢;generalize zE (a.num*b.den-b.num*a.den)=a1 at j i;generalize zE (a.num*b.den)=a2 at d j;generalize zE (b.num*a.den)=a3 at d j;generalize zE ((a.den*b.den:Nat):Int)=a4 at g i;generalize numS (a-b)=a0 at i⊢;have V:=hid d;have W:=hid g;have X:=hid j;have T:=hid i;have r:=hid hw;clear d g j i hw C s t M u ha x;have P:=zbe z;dsimp only at P;obtain⟨m,h⟩:=zzX ((w.alloc (zn #[St o,St k] 213)).alloc (zn #[St q,St l] 213));have D:qL w m:=by rw[h];exact((zM _ w).alloc (zN _) _).alloc (by simp) _
 have z0:m.heap.size=w.heap.size+1+1:=by rw[h];simp
 have G:m.heap[w.heap.size]? =zq (zn #[St o,St k] 213 (0,0)):=by
  rw[h];exact(Below.heap_alloc _ _ _ (by simp only[zH];omega)).trans (zG w _)
 have J:m.heap[w.heap.size+1]? =zq (zn #[St q,St l] 213 (0,0)):=by
  have:=zG (w.alloc (zn #[St o,St k] 213)) (zn #[St q,St l] 213 (0,0));rw[zH] at this;rw[h];exact this
 have U:=hid h;clear h;go_enter Tryz.func220,Tryz.ntmps220;go_wp21;rw[<-U.out];refine zzM (V _ (r.below D)) λA n=>?_;have v:=D.trans (n.mono D.size);have H:A.heap[w.heap.size]? =zq (zn #[St o,St k] 213 (0,0)):=(n.block _ (by omega)).trans G;have K:A.heap[w.heap.size+1]? =zq (zn #[St q,St l] 213 (0,0)):=(n.block _ (by omega)).trans J;have z4:m.heap.size<=A.heap.size:=n.size;have S:A.cell? ⟨c,0,zp⟩=zq (.func (.func 181) #[] #[]):=by rw[v.cell (p:=⟨c,0,zp⟩) P];exact z
 have Z:=hid z;clear z;clear n G J;go_wp21;refine zzM (X _ (r.below v)) λB y=>?_;have E:=v.trans (y.mono v.size);have I:B.heap[w.heap.size]? =zq (zn #[St o,St k] 213 (0,0)):=(y.block _ (by omega)).trans H;have L:B.heap[w.heap.size+1]? =zq (zn #[St q,St l] 213 (0,0)):=(y.block _ (by omega)).trans K;have Q:B.cell? ⟨w.heap.size,1,zp⟩=zq (St k):=by simp[World.cell?,I]
 have R:B.cell? ⟨w.heap.size+1,1,zp⟩=zq (St l):=by simp[World.cell?,L]
 clear y H K S I L;go_wp21;refine zzM (W _ (r.below E)) λa5 N=>?_;have F:=E.trans (N.mono E.size);clear N Q R;go_wp21;refine zzM (T _ (r.below F)) λa6 O=>?_;have Y:=F.trans (O.mono F.size);clear O;go_wp21;go_ret2;exact⟨rfl,Y⟩
theorem zk4 (f:Nat) (w:zA):
 zC zF 180 #[.func (.func f) #[] #[]] w λe w'=>∃t,e=zo (.func (.func 220) #[] #[zf (zq ⟨w.heap.size,0,zp⟩)])/\w.alloc (zn #[.func (.func f) #[] #[]] t)=w':=by
 go_enter Tryz.func180,Tryz.ntmps180;go_wp21;go_ret;exact⟨_,rfl,rfl⟩
theorem zo5 (a b:Rat) (ha:okQ a) (u:okQ b) (c:Nat) (r:List UInt8) (w:zA) (hw:Wd w)
 (d:∀e:zA,qL w e->Wd e->qJ 220 #[zb1 a,zb1 b,zf (zq ⟨c,0,zp⟩)] e (ze #[St r,zj zm 0])):
 qJ 143 #[St (numS a),St (numS b),.func (.func 220) #[] #[zf (zq ⟨c,0,zp⟩)]] w (ze #[St r,zj zm 0]):=by
 have f:=λe p=>zek a ha e p;have g:=λe p=>zek b u e p;unfold zb1 at d;generalize numS a=H at f⊢;generalize numS b=I at g⊢;generalize zE a.num=q at d f;generalize zE b.num=B at d g;generalize zD a.den=s at d f;generalize zD b.den=C at d g;have y:=hid f;have z:=hid g;have x:=hid d;have o:=hid hw;clear f g d hw ha u;go_enter Tryz.func143,Tryz.ntmps143;go_wp21;refine zzM (y _ o.out) λh i=>?_;have j:=i.alloc i.size (zn #[z8 ⟨q.toArray⟩,z8 ⟨s.toArray⟩] 213);go_wp21;refine zzM (z _ (o.below j)) λm l=>?_;have F:=i.size;have z2:h.heap.size<m.heap.size:=by have:=l.size;simp at this;omega
 have t:=j.trans (l.mono j.size);have n:m.heap[h.heap.size]? =zq (zn #[z8 ⟨q.toArray⟩,z8 ⟨s.toArray⟩] 213 (0,0)):=(l.block _ (by simp)).trans (zG h _);have D:m.cell? ⟨h.heap.size,0,zp⟩=zq (z8 ⟨q.toArray⟩):=by simp[World.cell?,n]
 have E:m.cell? ⟨h.heap.size,1,zp⟩=zq (z8 ⟨s.toArray⟩):=by simp[World.cell?,n]
 have k:=t.alloc t.size (zn #[z8 ⟨B.toArray⟩,z8 ⟨C.toArray⟩] 213);clear l n i j;go_wp21;refine zzM (x _ k (o.below k)) λG v=>?_;have A:=k.trans (v.mono k.size);clear v;go_wp21;go_ret2;exact⟨rfl,A⟩
theorem zgn (g:FuncId) (v:∀args w,(callFunc g args).run zF w=.ok (.enter g args) w) (a b:Rat) (ha:okQ a) (y:okQ b) (r:List UInt8) {u:Int} (w:zA) (hw:Wd w)
 (d:∀c:zA,qL w c->Wd c->zC zF g #[zb1 a,zb1 b] c λe w'=>e=zo (ze #[St r,zj zm u])/\zB c.heap.size c w'):
 qJ 143 #[St (numS a),St (numS b),.func (.func g) #[] #[]] w (ze #[St r,zj zm u]):=by
 have A:=hid v;clear v;have f:=λc q=>zek a ha c q;have h:=λc q=>zek b y c q;unfold zb1 at d;generalize numS a=M at f⊢;generalize numS b=N at h⊢;generalize zE a.num=s at d f;generalize zE b.num=G at d h;generalize zD a.den=t at d f;generalize zD b.den=H at d h;have C:=hid f;have D:=hid h;have B:=hid d;have p:=hid hw;clear f h d hw ha y;go_enter Tryz.func143,Tryz.ntmps143;go_wp21;refine zzM (C _ p.out) λi j=>?_;have k:=j.alloc j.size (zn #[z8 ⟨s.toArray⟩,z8 ⟨t.toArray⟩] 213);go_wp21;refine zzM (D _ (p.below k)) λn m=>?_;have K:=j.size;have z2:i.heap.size<n.heap.size:=by have:=m.size;simp at this;omega
 have x:=k.trans (m.mono k.size);have o:n.heap[i.heap.size]? =zq (zn #[z8 ⟨s.toArray⟩,z8 ⟨t.toArray⟩] 213 (0,0)):=(m.block _ (by simp)).trans (zG i _);have I:n.cell? ⟨i.heap.size,0,zp⟩=zq (z8 ⟨s.toArray⟩):=by simp[World.cell?,o]
 have J:n.cell? ⟨i.heap.size,1,zp⟩=zq (z8 ⟨t.toArray⟩):=by simp[World.cell?,o]
 have l:=x.alloc x.size (zn #[z8 ⟨G.toArray⟩,z8 ⟨H.toArray⟩] 213);clear m o j k;have F:=A.out;go_wp21;clear F;refine zzM (B _ l (p.below l)) λL z=>?_;have E:=l.trans (z.mono l.size);clear z;go_wp21;go_ret2;exact⟨rfl,E⟩
theorem zch (g:FuncId) (v:∀args w,(callFunc g args).run zF w=.ok (.enter g args) w) (a b:Rat) (ha:zbb a) (z:zbb b) (n d:Int) (r:List UInt8) (w:zA) (hw:Wd w)
 (f:∀c:zA,zC zF g #[zh #[zj zm a.num,I a.den],zh #[zj zm b.num,I b.den]] c λe w'=>e=zo (zh #[zj zm n,zj zm d])/\zB c.heap.size c w')
 (u:qK 186 #[zh #[zj zm n,zj zm d]] (St r)):
 qJ 141 #[St (numS a),St (numS b),.func (.func g) #[] #[]] w (ze #[St r,zg zt]):=by
 have C:=hid v;clear v;have h:=λc=>zbm a ha c;have i:=λc=>zbm b z c;generalize numS a=S at h⊢;generalize numS b=T at i⊢;generalize a.num=t at f h;generalize b.num=M at f i;generalize a.den=p at f h;generalize b.den=J at f i;have G:=hid h;have H:=hid i;have D:=hid f;have E:=hid u;have F:=hid hw;clear h i f u hw ha z;go_enter Tryz.func141,Tryz.ntmps141;go_wp21;refine zzM (G _) λj k=>?_;have q:=k.alloc k.size (zn #[zj zm t,zj zm (p:Int)] 219);go_wp21;refine zzM (H _) λm l=>?_;have P:=k.size;have z2:j.heap.size<m.heap.size:=by have:=l.size;simp at this;omega
 have x:=q.trans (l.mono q.size);have o:m.heap[j.heap.size]? =zq (zn #[zj zm t,zj zm (p:Int)] 219 (0,0)):=(l.block _ (by simp)).trans (zG j _);have N:m.cell? ⟨j.heap.size,0,zp⟩=zq (zj zm t):=by simp[World.cell?,o]
 have O:m.cell? ⟨j.heap.size,1,zp⟩=zq (zj zm (p:Int)):=by simp[World.cell?,o]
 have y:=x.alloc x.size (zn #[zj zm M,zj zm (J:Int)] 219);clear l o k q;have L:=C.out;go_wp21;clear L;refine zzM (D _) λQ A=>?_;have s:=y.trans (A.mono y.size);clear A;go_wp21;refine zzM (E _ (F.below s)) λR B=>?_;have K:=s.trans (B.mono s.size);clear B;go_wp21;go_ret2;exact⟨rfl,K⟩
theorem zd1 (g:FuncId) (a b:Rat) (h:¬(zbb a/\zbb b)) (ha:okQ a) (i:okQ b) (w:zA):
 qJ 141 #[St (numS a),St (numS b),.func (.func g) #[] #[]] w (ze #[St [],zg zu]):=by
 by_cases h1:zbb a
 ·have f:¬zbb b:=λf=>h ⟨h1,f⟩
  have c:=λe=>zbm a h1 e;have l:=λe=>zb5 b f (zO i.1 (by omega)) (zO i.2 (by omega)) e;generalize numS a=s at c⊢;generalize numS b=t at l⊢;generalize a.num=q at c;generalize a.den=p at c;have j:=hid c;have o:=hid l;clear c l h1 f h ha i;go_enter Tryz.func141,Tryz.ntmps141;go_wp21;refine zzM (j _) λr d=>?_;have k:=d.alloc d.size (zn #[zj zm q,zj zm (p:Int)] 219);go_wp21;refine zzM (o _) λu n=>?_;have m:=k.trans (n.mono k.size);clear n d k;go_wp21;go_ret2;exact⟨rfl,m.alloc m.size _⟩
 ·have c:=λe=>zb5 a h1 (zO ha.1 (by omega)) (zO ha.2 (by omega)) e
  generalize numS a=s at c⊢;generalize numS b=t at⊢;have j:=hid c;clear c h1 h ha i;go_enter Tryz.func141,Tryz.ntmps141;go_wp21;refine zzM (j _) λr d=>?_;go_wp21;go_ret2;exact⟨rfl,d.alloc d.size _⟩
theorem zhd {x:Int} {k:Nat} (a:0<k) (h:x.natAbs<10^k):digs x<=k:=(zaf x.natAbs k a).2 h
theorem zil {x k:Nat} (a:0<k) (h:x<10^k):(zD x).length<=k:=(zaf x k a).2 h
theorem zd0 {q:Rat} {k:Nat} (a:0<k) (b:k<=300) (h:sz q k):okQ q:=
 ⟨zO (zhd a h.1) b,zO (zil a h.2) b⟩
theorem zcv {q:Rat} (h:zbb q):(-100000000<q.num/\q.num<100000000)/\(-100000000<(q.den:Int)/\(q.den:Int)<100000000):=by
 have a:=(zaf q.num.natAbs 8 (by omega)).1 h.1;have b:=(zaf q.den 8 (by omega)).1 h.2;omega
theorem zzc {x y:Int} {k:Nat} (a:0<k) (b:digs x<=k) (hy:digs y<=k):digs (x-y)<=k+1:=by
 rw[Int.sub_eq_add_neg];exact zhz a b (by unfold digs at*;rw[Int.natAbs_neg];exact hy)
theorem zcd {x:Int} {d i j:Nat} (c:0<i) (a:x.natAbs<10^i) (b:d<10^j):digs (x*d)<=i+j:=
 zhd (by omega) (by rw[ze0];exact zcc a b)
theorem zje (a b:Rat) (i j:Nat) (n:0<i) (o:0<j) (D:i+j<300) (ha:sz a i) (d:sz b j) (w:zA) (hw:Wd w):
 qJ 199 #[St (numS a),St (numS b)] w (ze #[St (numS (a+b)),zj zm 0]):=by
 have q:=zd0 n (by omega) ha;have r:=zd0 o (by omega) d;by_cases h:zbb a/\zbb b
 ·obtain⟨x,y⟩:=h
  have k:=zcv x;have l:=zcv y
  have e:=λc f=>zch 241 (enters_of Tryz.func241 (by kernel_rfl) rfl) a b x y (a.num*b.den+b.num*a.den) (a.den*b.den:Int) (numS (a+b)) c f
   (λc=>nadd a.num a.den b.num b.den k.1 k.2 l.1 l.2 c)
   (λc f=>by
     have U:=zbs k.1 l.2;have V:=zbs l.1 k.2;have W:=zbs k.2 l.2;have:=zd8 (a.num*b.den+b.num*a.den) (a.den*b.den:Int) (Int.mul_ne_zero (by have:=a.den_pos;omega) (by have:=b.den_pos;omega)) (by omega) (by omega) c f;rw[<-xE,<-zf0] at this;rw[<-xE];exact this)
  generalize numS a=R at e⊢;generalize numS b=S at e⊢;generalize numS (a+b)=Q at e⊢;have u:=hid e;clear e k l q r ha d n o D x y;go_enter Tryz.func199,Tryz.ntmps199;go_wp21;refine zzM (u _ hw) λs t=>?_;go_wp21;go_ret2;exact⟨rfl,t⟩
 ·have e:=λc=>zd1 241 a b h q r c
  have g:=λv c f J=>zo5 a b q r v (numS (a+b)) c f J;have E:digs (a.num*b.den)<=300:=zO (zcd n ha.1 d.2) (by omega);have F:digs (b.num*a.den)<=300:=zO (zcd o d.1 ha.2) (by omega);have G:digs (a.num*b.den+b.num*a.den)<=300:=by
   have P:=zcd n ha.1 d.2;have I:=zcd o d.1 ha.2;rw[Nat.add_comm] at I;have:=zhz (show 0<i+j by omega) P I;omega
  have H:(zD (a.den*b.den)).length<=300:=zO (zil (by omega) (zcc ha.2 d.2)) (by omega);have m:=λv c O f=>zy8 a b q r E F G H v c O f;generalize numS a=R at e g⊢;generalize numS b=S at e g⊢;generalize numS (a+b)=Q at g m⊢;generalize zb1 a=X at g m;generalize zb1 b=Y at g m;have u:=hid e;have K:=hid g;have L:=hid m;have M:=hid hw;clear e g m q r ha d n o D h E F G H hw;go_enter Tryz.func199,Tryz.ntmps199;go_wp21;refine zzM (u _) λs t=>?_;go_wp21;refine(zk4 _ _).mono ?_;rintro T Z ⟨A,rfl,rfl⟩;go_wp21;have z:=t.alloc t.size (zn #[.func (.func 194) #[] #[]] A);have C:(s.alloc (zn #[.func (.func 194) #[] #[]] A)).cell? ⟨s.heap.size,0,zp⟩=zq (.func (.func 194) #[] #[]):=by
   have:=zG s (zn #[.func (.func 194) #[] #[]] A (0,0));simp only[World.cell?,this];rfl
  refine zzM (K _ _ (M.below z) (λc d f=>L _ c ((d.cell (p:=⟨s.heap.size,0,zp⟩) (by simp)).trans C) f)) λa0 B=>?_;have N:=z.trans (B.mono z.size);clear C B;go_wp21;go_ret2;exact⟨rfl,N⟩
theorem ztz (a b:Rat) (i j:Nat) (n:0<i) (o:0<j) (D:i+j<300) (ha:sz a i) (d:sz b j) (w:zA) (hw:Wd w):
 qJ 138 #[St (numS a),St (numS b)] w (ze #[St (numS (a-b)),zj zm 0]):=by
 have q:=zd0 n (by omega) ha;have r:=zd0 o (by omega) d;by_cases h:zbb a/\zbb b
 ·obtain⟨x,y⟩:=h
  have k:=zcv x;have l:=zcv y
  have e:=λc f=>zch 179 (enters_of Tryz.func179 (by kernel_rfl) rfl) a b x y (a.num*b.den-b.num*a.den) (a.den*b.den:Int) (numS (a-b)) c f
   (λc=>nsub a.num a.den b.num b.den k.1 k.2 l.1 l.2 c)
   (λc f=>by
     have U:=zbs k.1 l.2;have V:=zbs l.1 k.2;have W:=zbs k.2 l.2;have:=zd8 (a.num*b.den-b.num*a.den) (a.den*b.den:Int) (Int.mul_ne_zero (by have:=a.den_pos;omega) (by have:=b.den_pos;omega)) (by omega) (by omega) c f;rw[<-xE,<-znk] at this;rw[<-xE];exact this)
  generalize numS a=R at e⊢;generalize numS b=S at e⊢;generalize numS (a-b)=Q at e⊢;have u:=hid e;clear e k l q r ha d n o D x y;go_enter Tryz.func138,Tryz.ntmps138;go_wp21;refine zzM (u _ hw) λs t=>?_;go_wp21;go_ret2;exact⟨rfl,t⟩
 ·have e:=λc=>zd1 179 a b h q r c
  have g:=λv c f J=>zo5 a b q r v (numS (a-b)) c f J;have E:digs (a.num*b.den)<=300:=zO (zcd n ha.1 d.2) (by omega);have F:digs (b.num*a.den)<=300:=zO (zcd o d.1 ha.2) (by omega);have G:digs (a.num*b.den-b.num*a.den)<=300:=by
   have P:=zcd n ha.1 d.2;have I:=zcd o d.1 ha.2;rw[Nat.add_comm] at I;have:=zzc (show 0<i+j by omega) P I;omega
  have H:(zD (a.den*b.den)).length<=300:=zO (zil (by omega) (zcc ha.2 d.2)) (by omega);have m:=λv c O f=>zy9 a b q r E F G H v c O f;generalize numS a=R at e g⊢;generalize numS b=S at e g⊢;generalize numS (a-b)=Q at g m⊢;generalize zb1 a=X at g m;generalize zb1 b=Y at g m;have u:=hid e;have K:=hid g;have L:=hid m;have M:=hid hw;clear e g m q r ha d n o D h E F G H hw;go_enter Tryz.func138,Tryz.ntmps138;go_wp21;refine zzM (u _) λs t=>?_;go_wp21;refine(zk4 _ _).mono ?_;rintro T Z ⟨A,rfl,rfl⟩;go_wp21;have z:=t.alloc t.size (zn #[.func (.func 181) #[] #[]] A);have C:(s.alloc (zn #[.func (.func 181) #[] #[]] A)).cell? ⟨s.heap.size,0,zp⟩=zq (.func (.func 181) #[] #[]):=by
   have:=zG s (zn #[.func (.func 181) #[] #[]] A (0,0));simp only[World.cell?,this];rfl
  refine zzM (K _ _ (M.below z) (λc d f=>L _ c ((d.cell (p:=⟨s.heap.size,0,zp⟩) (by simp)).trans C) f)) λa0 B=>?_;have N:=z.trans (B.mono z.size);clear C B;go_wp21;go_ret2;exact⟨rfl,N⟩
theorem zjf (a b:Rat) (i j:Nat) (t:0<i) (u:0<j) (p:i+j<=300) (ha:sz a i) (l:sz b j) (w:zA) (hw:Wd w):
 qJ 106 #[St (numS a),St (numS b)] w (ze #[St (numS (a*b)),zj zm 0]):=by
 have n:=zd0 t (by omega) ha;have o:=zd0 u (by omega) l;by_cases h:zbb a/\zbb b
 ·obtain⟨r,s⟩:=h
  have e:=zcv r;have f:=zcv s
  have c:=λd k=>zch 142 (enters_of Tryz.func142 (by kernel_rfl) rfl) a b r s (a.num*b.num) (a.den*b.den:Int) (numS (a*b)) d k
   (λd=>nmul a.num a.den b.num b.den e.1 e.2 f.1 f.2 d)
   (λd k=>by
     have I:=zbs e.1 f.1;have J:=zbs e.2 f.2;have:=zd8 (a.num*b.num) (a.den*b.den:Int) (Int.mul_ne_zero (by have:=a.den_pos;omega) (by have:=b.den_pos;omega)) (by omega) (by omega) d k;rw[<-xE,<-zf1] at this;rw[<-xE];exact this)
  generalize numS a=G at c⊢;generalize numS b=H at c⊢;generalize numS (a*b)=E at c⊢;have q:=hid c;clear c e f n o ha l t u p r s;go_enter Tryz.func106,Tryz.ntmps106;go_wp21;refine zzM (q _ hw) λF g=>?_;go_wp21;go_ret2;exact⟨rfl,g⟩
 ·have c:=λd=>zd1 142 a b h n o d
  have x:digs (a.num*b.num)<=300:=zO (zhd (by omega) (by rw[Int.natAbs_mul];exact zcc ha.1 l.1)) p;have y:(zD (a.den*b.den)).length<=300:=zO (zil (by omega) (zcc ha.2 l.2)) p;have m:=λd k=>zgn 144 (enters_of Tryz.func144 (by kernel_rfl) rfl) a b n o (numS (a*b)) d k (λB _ D=>zt7 a b n o x y B D);generalize numS a=G at c m⊢;generalize numS b=H at c m⊢;generalize numS (a*b)=E at m⊢;have q:=hid c;have z:=hid m;have A:=hid hw;clear c m n o ha l t u p h x y hw;go_enter Tryz.func106,Tryz.ntmps106;go_wp21;refine zzM (q _) λF g=>?_;go_wp21;refine zzM (z _ (A.below g)) λK v=>?_;have C:=g.trans (v.mono g.size);clear v;go_wp21;go_ret2;exact⟨rfl,C⟩
theorem zoj (a b:Rat) (e:b≠0) (i j:Nat) (r:0<i) (s:0<j) (x:i+j<=300) (ha:sz a i) (m:sz b j) (w:zA) (hw:Wd w):
 qJ 122 #[St (numS a),St (numS b)] w (ze #[St (numS (a/b)),zj zm 0]):=by
 have p:=zd0 r (by omega) ha;have q:=zd0 s (by omega) m;obtain⟨L,o⟩:=zzX (⟨(numS b).toArray⟩:ByteArray);have M:(L.toList==[48])=zu:=by
  rw[beq_eq_false_iff_ne,zfo o];intro F;exact e ((zpy b).1 F)
 by_cases h:zbb a/\zbb b
 ·obtain⟨u,v⟩:=h
  have f:=zcv u;have g:=zcv v;have z:b.num≠0:=λh=>e (Rat.num_eq_zero.1 h)
  have c:=λd l=>zch 156 (enters_of Tryz.func156 (by kernel_rfl) rfl) a b u v (a.num*b.den) (a.den*b.num:Int) (numS (a/b)) d l
   (λd=>ndiv a.num a.den b.num b.den f.1 f.2 g.1 g.2 d)
   (λd l=>by
     have N:=zbs f.1 g.2;have O:=zbs f.2 g.1;have:=zd8 (a.num*b.den) (a.den*b.num:Int) (Int.mul_ne_zero (by have:=a.den_pos;omega) z) (by omega) (by omega) d l;rw[<-zjx a b e] at this;exact this)
  rw[zgf o] at c⊢;generalize numS a=K at c⊢;generalize numS (a/b)=I at c⊢;have t:=hid c;clear c f g p q ha m r s x u v o z e;go_enter Tryz.func122,Tryz.ntmps122;go_wp21;refine zzM (t _ hw) λJ k=>?_;go_wp21;go_ret2;exact⟨rfl,k⟩
 ·have c:=λd=>zd1 156 a b h p q d
  have A:digs (a.num*b.den)<=300:=zO (zcd r ha.1 m.2) x;have B:digs (b.num*a.den)<=300:=zO (zcd s m.1 ha.2) (by omega);have n:=λd l=>zgn 157 (enters_of Tryz.func157 (by kernel_rfl) rfl) a b p q (numS (a/b)) d l (λE _ H=>z1o a b e p q A B E H);rw[zgf o] at c n⊢;generalize numS a=K at c n⊢;generalize numS (a/b)=I at n⊢;have t:=hid c;have C:=hid n;have D:=hid hw;clear c n p q ha m r s x h A B hw o e;go_enter Tryz.func122,Tryz.ntmps122;go_wp21;refine zzM (t _) λJ k=>?_;go_wp21;refine zzM (C _ (D.below k)) λP y=>?_;have G:=k.trans (y.mono k.size);clear y;go_wp21;go_ret2;exact⟨rfl,G⟩
end
namespace Geo
structure Pt where
 x:Rat
 y:Rat
 deriving DecidableEq
def cmpR (a b:Rat):Int:=if a<b then-1 else if a=b then 0 else 1
theorem zaw (a b:Rat):(a<b/\cmpR a b= -1)\/(a=b/\cmpR a b=0)\/(b<a/\cmpR a b=1):=by
 unfold cmpR;by_cases h:a<b
 ·exact .inl ⟨h,by rw[if_pos h]⟩
 ·by_cases e:a=b
  ·exact .inr (.inl ⟨e,by rw[if_neg h,if_pos e]⟩)
  ·exact .inr (.inr ⟨by grind,by rw[if_neg h,if_neg e]⟩)
theorem ygq (a:Rat):cmpR a a=0:=by have:=zaw a a;grind
theorem zzp (a b c d:Rat) (h:a-b=c-d):cmpR a b=cmpR c d:=by
 have:=zaw a b;have:=zaw c d;grind
def ordP (p q:Pt):Int:=if cmpR p.x q.x≠0 then cmpR p.x q.x else cmpR p.y q.y
theorem zas (p q:Pt):((p.x<q.x\/p.x=q.x/\p.y<q.y)/\ordP p q= -1)\/(p=q/\ordP p q=0)\/((q.x<p.x\/p.x=q.x/\q.y<p.y)/\ordP p q=1):=by
 unfold ordP;obtain⟨a,b⟩:=p;obtain⟨c,d⟩:=q;simp only[Pt.mk.injEq];have:=zaw a c;have:=zaw b d;grind
def turn (a b c:Pt):Int:=cmpR ((b.x-a.x)*(c.y-a.y)) ((b.y-a.y)*(c.x-a.x))
def low (a b:Pt):Pt:=if ordP a b>0 then b else a
def high (a b:Pt):Pt:=if ordP a b>0 then a else b
end Geo
section
open Go.RowKit Go.Shelf Lib Str Limb Geo
attribute [local go_sem] Oper.semAt_some
theorem z2v (x y a n b o u v:List UInt8) (z:Int) (C:Hid (∀h:zA,qJ 183 #[St x] h (ze #[zh #[zj zm 0,zj zm 0],zg zu])))
 (D:Hid (qK 140 #[St x] (ze #[zh #[St a,St b],zj zm 0])))
 (E:Hid (qK 140 #[St y] (ze #[zh #[St n,St o],zj zm 0])))
 (B:Hid (qK 158 #[zh #[St a,St b],zh #[St n,St o]] (ze #[St u,St v,zj zm 0])))
 (A:Hid (∀h:zA,qJ 196 #[St u,St v] h (ze #[zj zm z,zj zm 0])))
 (w:zA) (g:Hid (Wd w)):
 qJ 160 #[St x,St y] w (ze #[zj zm z,zj zm 0]):=by
 go_enter Tryz.func160,Tryz.ntmps160;go_wp21;refine zzM (C _) λJ i=>?_;have m:=i.alloc i.size (zn #[zj zm 0,zj zm 0] 219);clear i;go_wp21;refine zzM (D _ (g.below m)) λc r=>?_;have j:=m.trans (r.mono m.size);have k:=j.alloc j.size (zn #[z8 ⟨a.toArray⟩,z8 ⟨b.toArray⟩] 213);clear r;go_wp21;refine zzM (E _ (g.below k)) λe d=>?_;have I:=j.size;have M:c.heap.size<e.heap.size:=by have:=d.size;simp at this;omega
 have p:=k.trans (d.mono k.size);have f:e.heap[c.heap.size]? =zq (zn #[z8 ⟨a.toArray⟩,z8 ⟨b.toArray⟩] 213 (0,0)):=(d.block _ (by simp)).trans (zG c _);have G:e.cell? ⟨c.heap.size,0,zp⟩=zq (z8 ⟨a.toArray⟩):=by simp[World.cell?,f]
 have H:e.cell? ⟨c.heap.size,1,zp⟩=zq (z8 ⟨b.toArray⟩):=by simp[World.cell?,f]
 have l:=p.alloc p.size (zn #[z8 ⟨n.toArray⟩,z8 ⟨o.toArray⟩] 213);clear d f;go_wp21;refine zzM (B _ (g.below l)) λK s=>?_;have q:=l.trans (s.mono l.size);clear s;go_wp21;refine zzM (A _) λL t=>?_;have F:=q.trans (t.mono q.size);clear t;go_wp21;go_ret2;exact⟨rfl,F⟩
theorem z2w (x y b p c q u v:List UInt8) (z E r:Int) (H:Hid (∀a:zA,qJ 183 #[St x] a (ze #[zh #[zj zm E,zj zm r],zg zt]))) (I:Hid (∀a:zA,qJ 183 #[St y] a (ze #[zh #[zj zm 0,zj zm 0],zg zu])))
 (J:Hid (qK 140 #[St x] (ze #[zh #[St b,St c],zj zm 0])))
 (K:Hid (qK 140 #[St y] (ze #[zh #[St p,St q],zj zm 0])))
 (G:Hid (qK 158 #[zh #[St b,St c],zh #[St p,St q]] (ze #[St u,St v,zj zm 0])))
 (F:Hid (∀a:zA,qJ 196 #[St u,St v] a (ze #[zj zm z,zj zm 0])))
 (w:zA) (h:Hid (Wd w)):
 qJ 160 #[St x,St y] w (ze #[zj zm z,zj zm 0]):=by
 go_enter Tryz.func160,Tryz.ntmps160;go_wp21;refine zzM (H _) λP i=>?_;have j:=i.alloc i.size (zn #[zj zm E,zj zm r] 219);clear i;go_wp21;refine zzM (I _) λQ A=>?_;have k:=j.trans (A.mono j.size);have o:=k.alloc k.size (zn #[zj zm 0,zj zm 0] 219);clear A j k;go_wp21;refine zzM (J _ (h.below o)) λd B=>?_;have l:=o.trans (B.mono o.size);have m:=l.alloc l.size (zn #[z8 ⟨b.toArray⟩,z8 ⟨c.toArray⟩] 213);clear B;go_wp21;refine zzM (K _ (h.below m)) λf e=>?_;have O:=l.size;have T:d.heap.size<f.heap.size:=by have:=e.size;simp at this;omega
 have s:=m.trans (e.mono m.size);have g:f.heap[d.heap.size]? =zq (zn #[z8 ⟨b.toArray⟩,z8 ⟨c.toArray⟩] 213 (0,0)):=(e.block _ (by simp)).trans (zG d _);have M:f.cell? ⟨d.heap.size,0,zp⟩=zq (z8 ⟨b.toArray⟩):=by simp[World.cell?,g]
 have N:f.cell? ⟨d.heap.size,1,zp⟩=zq (z8 ⟨c.toArray⟩):=by simp[World.cell?,g]
 have n:=s.alloc s.size (zn #[z8 ⟨p.toArray⟩,z8 ⟨q.toArray⟩] 213);clear e g;go_wp21;refine zzM (G _ (h.below n)) λR C=>?_;have t:=n.trans (C.mono n.size);clear C;go_wp21;refine zzM (F _) λS D=>?_;have L:=t.trans (D.mono t.size);clear D;go_wp21;go_ret2;exact⟨rfl,L⟩
theorem zim (a b:Rat):cmpZ (a.num*b.den) (b.num*a.den)=cmpR a b:=by
 have f:=Rat.lt_iff a b;have e:=Rat.lt_iff b a;unfold cmpZ;rcases zaw a b with⟨c,d⟩|⟨c,d⟩|⟨c,d⟩
 ·rw[d,if_pos (f.1 c)]
 ·subst c;rw[d,if_neg (by omega),if_neg (by omega)]
 ·rw[d,if_neg (by have:=e.1 c;omega),if_pos (e.1 c)]
theorem z2x (x y:List UInt8) (c b m j p q z:Int) (o:Hid (∀a:zA,qJ 183 #[St x] a (ze #[zh #[zj zm c,zj zm b],zg zt])))
 (r:Hid (∀a:zA,qJ 183 #[St y] a (ze #[zh #[zj zm m,zj zm j],zg zt])))
 (A:zm.wrap (c*j)=p) (B:zm.wrap (m*b)=q)
 (n:Hid (∀a:zA,zC zF 202 #[zj zm p,zj zm q] a λe w'=>e=zo (zj zm z)/\w'=a)) (w:zA):
 qJ 160 #[St x,St y] w (ze #[zj zm z,zj zm 0]):=by
 go_enter Tryz.func160,Tryz.ntmps160;go_wp21;refine zzM (o _) λd f=>?_;have k:=f.alloc f.size (zn #[zj zm c,zj zm b] 219);go_wp21;refine zzM (r _) λh g=>?_;have v:=f.size;have z2:d.heap.size<h.heap.size:=by have:=g.size;simp at this;omega
 have l:=k.trans (g.mono k.size);have i:h.heap[d.heap.size]? =zq (zn #[zj zm c,zj zm b] 219 (0,0)):=(g.block _ (by simp)).trans (zG d _);have t:h.cell? ⟨d.heap.size,0,zp⟩=zq (zj zm c):=by simp[World.cell?,i]
 have u:h.cell? ⟨d.heap.size,1,zp⟩=zq (zj zm b):=by simp[World.cell?,i]
 have s:=l.alloc l.size (zn #[zj zm m,zj zm j] 219);clear g i f k l;go_wp21;refine(n _).mono ?_;rintro e C ⟨rfl,rfl⟩;go_wp21;go_ret2;exact⟨rfl,s⟩
theorem zgq (a b:Rat) (i j:Nat) (p:0<i) (q:0<j) (s:i+j<=300) (ha:sz a i) (h:sz b j) (w:zA) (hw:Wd w):
 qJ 160 #[St (numS a),St (numS b)] w (ze #[zj zm (cmpR a b),zj zm 0]):=by
 have e:=zd0 p (by omega) ha;have f:=zd0 q (by omega) h;have r:digs (a.num*b.den)<=300:=zO (zcd p ha.1 h.2) s;have k:digs (b.num*a.den)<=300:=zO (zcd q h.1 ha.2) (by omega);have l:=hid λc d=>zek a e c d;have m:=hid λc d=>zek b f c d;have cr:=λc d=>zhc a.num b.num a.den b.den e.1 f.1 e.2 f.2 r c d;rw[zcf k,zcg k] at cr;have g:=λc=>zsx (a.num*b.den) (b.num*a.den) r k c;rw[zim] at g;by_cases h1:zbb a
 ·by_cases h2:zbb b
  ·have n:=zcv h1
   have o:=zcv h2;have t:=zbs n.1 o.2;have u:=zbs o.1 n.2
   exact z2x _ _ a.num a.den b.num b.den _ _ _ (hid λc=>zbm a h1 c) (hid λc=>zbm b h2 c) (zI _ (by omega)) (zI _ (by omega))
    (hid λc=>by rw[<-zim];exact Tryz.cmp_Compare_int _ _ c) w
  ·exact z2w _ _ _ _ _ _ _ _ _ a.num a.den (hid λc=>zbm a h1 c) (hid λc=>zb5 b h2 (zO f.1 (by omega)) (zO f.2 (by omega)) c) l m (hid cr) (hid g) w (hid hw)
 ·exact z2v _ _ _ _ _ _ _ _ _ (hid λc=>zb5 a h1 (zO e.1 (by omega)) (zO e.2 (by omega)) c) l m (hid cr) (hid g) w (hid hw)
theorem zk5 (q:Rat) (h:okQ q) (w:zA) (hw:Wd w):
 qJ 216 #[St (numS q)] w (ze #[St (zE q.num),St (zD q.den),zj zm 0]):=by
 have a:=zek q h w hw;generalize numS q=g at a⊢;generalize zE q.num=i at a⊢;generalize zD q.den=j at a⊢;have c:=hid a;clear a h;go_enter Tryz.func216,Tryz.ntmps216;go_wp21;refine zzM c.out λk b=>?_;go_wp21
 (refine wp_region_quiet_lit (by kernel_rfl) (by kernel_rfl) (WQ.out ?_);(repeat(first|(apply WQ.read (by rfl);(focus(rintro e ⟨f,rfl⟩;go_simp;try with_reducible rfl));try simp only[zzQ])|(apply WQ.skip (by rfl);try simp only[zzQ])));refine WQ.nil ?_;rintro _ ⟨d,rfl⟩)
 go_wp21;go_ret3;exact⟨rfl,zao (b.alloc b.size _) d⟩
end
section
open Go
variable {P:Program} {ops:Array Oper} {β:Type}
def zfp (P:Program) (C:Value->zA->Prop):Result Next->Prop
 | .ok (.value u) w'=>C u w'
 | .ok .skip w'=>C undef w'
 | .ok (.enter f args) w'=>zC P f args w' (λe w''=>∃v,e=zo v/\C v w'')
 |_=>False
theorem zwz {o:Oper} {a:Act} {w:zA} {C:Value->zA->Prop} {c:Act->zA->Prop} {Q:Exit->Act->zA->Prop} (b:∀v w',C v w'->c (a.put o.dst v) w') (h:zfp P C ((execOp a.eval o).run P w)):o.wp P a w c Q:=by
 unfold Oper.wp;generalize (execOp a.eval o).run P w=g at*
 cases g with
 |ok d w'=>
  cases d<;>simp only[zfp] at h<;>simp only[Oper.upon]
  ·exact b _ _ h
  ·exact b _ _ h
  ·exact h.mono λi j ⟨v,f,e⟩=>by subst f;exact b _ _ e
 |halt d w'=>simp only[zfp] at h
def zgx (vs:β->Nat->Value) (C:β->Array Bool->zA->Prop) (i:Nat) (L:Array Bool) (b:β) (v:Value) (w':zA):Prop:=
 ∃b',(∀j,L.getD j zu=zt->vs b' j=vs b j)/\vs b' i=v/\C b' (L.setIfInBounds i zt) w'
def zt8 (P:Program) (ops:Array Oper) (vs:β->Nat->Value) (C:β->Array Bool->zA->Prop) (i:Nat) (o:Oper) (a:Act) (b:β):Prop:=
 ∀L w,AcAt ops i L->C b L w->if Region.wanted o (yielded ops a.tmps) then zfp P (zgx vs C i L b) ((execOp a.eval o).run P w) else zgx vs C i L b undef w
theorem ziw (c d:Nat->Value) (a:Act) (b:Array Bool) (h:∀j,b.getD j zu=zt->c j=d j):∀k,zax ops c a b k=zax ops d a b k
 |0=>rfl
 |k+1=>by
  simp only[zax];rw[ziw c d a b h k];split
  ·rename_i hk;rw[h k hk]
  ·rfl
theorem zw0 {Q:Exit->Act->zA->Prop} {C:β->Array Bool->zA->Prop} (a1:(acB ops&&zfd ops)=zt) (e:β->Nat->Value) (a:Act)
 (step:∀b i o,ops[i]? =zq o->zt8 P ops e C i o (zax ops (e b) a (zbw ops.size i) ops.size) b)
 (a7:∀b c w,(∀i,i<ops.size->c.getD i zu=zt)->C b c w->Q .normal (zax ops (e b) a (zbw ops.size ops.size) ops.size) w):
 ∀(r:Nat) (c:Array Bool) (w:zA) (b:β),c.size=ops.size->zoe ops c->((List.range ops.size).filter λi=>!c.getD i zu).length<=r->C b c w->wpAny P .any ops Q r c (zax ops (e b) a c ops.size) w:=by
 obtain⟨ad,a6,a8,a5⟩:=zmq a1;have U:∀b c w,(∀i,i<ops.size->c.getD i zu=zt)->C b c w->Q .normal (zax ops (e b) a c ops.size) w:=by
  intro b c w n s;have k:zax ops (e b) a c ops.size=zax ops (e b) a (zbw ops.size ops.size) ops.size:=by
   have:∀m,m<=ops.size->zax ops (e b) a c m=zax ops (e b) a (zbw ops.size ops.size) m:=by
    intro m
    induction m with
    |zero=>intro _;rfl
    |succ m z=>
     intro ag;simp only[zax];rw[z (by omega),n m (by omega),zd5];simp[show m<ops.size by omega]
   exact this _ (zN _)
  rw[k];exact a7 b c w n s
 have ac:∀c,c.size=ops.size->Region.ready .any ops c=[]->∀i,i<ops.size->c.getD i zu=zt:=by
  intro c y E i
  induction i using Nat.strongRecOn with
  |_ i z=>
   intro g
   cases hl:c.getD i zu with
   |true=>rfl
   |false=>
    have S:i∈Region.ready .any ops c:=by
     refine mem_ready.2 ⟨getD_in (by omega) hl,ops[i],by simp[g],λk J H=>?_⟩;have R:=a5 i (ops[i]) (show ops[i]? =zq (ops[i]) from Array.getElem?_eq_getElem g) k J H;exact z k.on R (Nat.lt_trans R g)
    rw[E] at S;cases S
 intro r
 induction r with
 |zero=>
  intro c w b y A O s;have n:∀i,i<ops.size->c.getD i zu=zt:=by
   intro i g
   cases hl:c.getD i zu with
   |true=>rfl
   |false=>
    have:i∈(List.range ops.size).filter λi=>!c.getD i zu:=List.mem_filter.2 ⟨List.mem_range.2 g,by rw[hl];rfl⟩;rw[List.length_eq_zero_iff.1 (Nat.le_zero.1 O)] at this;cases this
  refine⟨?_,U b c w n s⟩;apply List.eq_nil_iff_forall_not_mem.2;intro i g;obtain⟨F,o,j,_⟩:=mem_ready.1 g;have:=n i (Array.getElem?_eq_some_iff.1 j).1;rw[getD_both F] at this;cases this
 |succ r z=>
  intro c w b y A O s;refine⟨λE=>U b c w (ac c y E) s,λi g=>?_⟩;obtain⟨F,o,j,n⟩:=mem_ready.1 g;have B:i<ops.size:=(Array.getElem?_eq_some_iff.1 j).1;have t:=getD_both F;have I:∀d,Region.waitsFor .any ops i d=zt->c.getD d zu=zt:=by
   intro d hw;obtain⟨af,aa,k,J,H,rfl⟩:=Region.waitsFor_spec hw;have:af=o:=Option.some.inj (aa.symm.trans j);subst this;exact n k J H
  have ab:∀d,Region.waitsFor .any ops d i=zt->c.getD d zu=zu:=by
   intro d hw
   cases hl:c.getD d zu with
   |false=>rfl
   |true=>rw[A d i hl hw] at t;cases t
  have a4:AcAt ops i c:=⟨y,t,I,A⟩;have x:=step b i o j c w a4 s
  have W:=λu=>zic (e u) a c i (by omega) t (λd a0 a9 v q=>by
   rcases Nat.lt_or_ge d ops.size with K|K
   ·exact a6 i d a0 B K (Ne.symm a9) q v
   ·simp[zcr,Array.getElem?_eq_none K] at q) ops.size
  simp only[if_pos B] at W;have V:=zit (ops:=ops) (a:=zax ops (e b) a c ops.size) (b:=zax ops (e b) a (zbw ops.size i) ops.size) (o:=o) (λZ b=>Region.noSelect_spec ad i o Z b j) (λX ae=>by
   refine zib (e b) a c _ X ops.size λd q v=>?_;rw[zd5];by_cases hji:d=i
   ·subst hji;rw[t];simp
   ·have:=a8 i d X B q (Ne.symm hji) v (by simpa [zi8,j] using ae)
    rcases this with⟨N,G⟩|⟨N,G⟩
    ·rw[I d G];simp[q,N]
    ·rw[ab d G];simp;omega)
  have T:∀M D,zgx e C i c b M D->wpAny P .any ops Q r (c.setIfInBounds i zt) ((zax ops (e b) a c ops.size).put o.dst M) D:=by
   rintro M D ⟨u,a3,rfl,a2⟩;have v:o.dst=zcr ops i:=by simp[zcr,j]
   rw[v,ziw (e b) (e u) a c (λd q=>(a3 d q).symm) ops.size,<-W u];refine z _ D u (by simpa using y) ?_ ?_ a2
   ·intro f Y L hw
    rw[zdp c i _ (by omega)] at L⊢;split
    ·rfl
    ·split at L
     ·rename_i h;subst h;exact I Y hw
     ·exact A f Y L hw
   ·have k:((List.range ops.size).filter λf=>!(c.setIfInBounds i zt).getD f zu)=((List.range ops.size).filter λf=>!c.getD f zu).filter λf=>decide (f≠i):=by
     rw[List.filter_filter];refine List.filter_congr λf _=>?_;rw[zdp c i f (by omega)];by_cases h:i=f
     ·subst h;simp
     ·simp[h,Ne.symm h]
    rw[k];have:=(List.length_filter_lt_length_iff_exists (l:=(List.range ops.size).filter λf=>!c.getD f zu) (p:=λf=>decide (f≠i))).2 ⟨i,List.mem_filter.2 ⟨List.mem_range.2 B,by rw[t];rfl⟩,by simp⟩;omega
  unfold wpOp;simp only[j];rw[V.2];by_cases hw:Region.wanted o (yielded ops (zax ops (e b) a (zbw ops.size i) ops.size).tmps)=zt
  ·rw[if_pos hw] at x⊢
   rw[<-V.1] at x;exact .inl (zwz T x)
  ·rw[if_neg hw] at x⊢
   exact T _ _ x
def zhn (vs:β->Nat->Value) (C:β->(Nat->Bool)->zA->Prop) (i:Nat) (f:Nat->Bool) (b:β) (v:Value) (w':zA):Prop:=
 ∃b',(∀j,f j=zt->vs b' j=vs b j)/\vs b' i=v/\C b' (λj=>if i=j then zt else f j) w'
def zt1 (P:Program) (ops:Array Oper) (vs:β->Nat->Value) (C:β->(Nat->Bool)->zA->Prop) (i:Nat) (o:Oper) (a:Act) (b:β):Prop:=
 ∀f w,AcF ops i f->C b f w->
  if Region.wanted o (yielded ops a.tmps) then zfp P (zhn vs C i f b) ((execOp a.eval o).run P w) else zhn vs C i f b undef w
def AcLB (P:Program) (ops:Array Oper) (vs:β->Nat->Value) (C:β->(Nat->Bool)->zA->Prop) (K:Act->zA->Prop) (b:β):Nat->List Oper->Act->Prop
 |_,[],a=>∀f w,(∀i,i<ops.size->f i=zt)->C b f w->K a w
 |k,o::rest,a=>zt1 P ops vs C k o a b/\AcLB P ops vs C K b (k+1) rest (a.put o.dst (vs b k))
section
variable {vs:β->Nat->Value} {C:β->(Nat->Bool)->zA->Prop} {K:Act->zA->Prop} {k:Nat} {o:Oper} {rest:List Oper} {a:Act} {b:β}
theorem ze1 (h:∀f w,(∀i,i<ops.size->f i=zt)->C b f w->K a w):AcLB P ops vs C K b k [] a:=h
theorem zag (v:Value) (g:vs b k=v) (hw:Region.wanted o (yielded ops a.tmps)=zt)
 (e:∀f w,C b f w->C b (λj=>if k=j then zt else f j) w)
 (hy:∀f w,AcF ops k f->C b f w->(execOp a.eval o).run P w=.ok (.value v) w)
 (h:AcLB P ops vs C K b (k+1) rest (a.put o.dst v)):AcLB P ops vs C K b k (o::rest) a:=by
 subst g;refine⟨λf w d c=>?_,h⟩;rw[if_pos hw,hy f w d c];exact⟨b,λ_ _=>rfl,rfl,e f w c⟩
theorem qB (v:Value) (c:∀f w,C b f w->C b (λj=>if k=j then zt else f j) w) (h:AcLB P ops vs C K b (k+1) rest (a.put o.dst v)) (d:vs b k=v:=by rfl) (hw:Region.wanted o (yielded ops a.tmps)=zt:=by rfl) (hy:∀f w,AcF ops k f->C b f w->(execOp a.eval o).run P w=.ok (.value v) w:=by intro f e g h;go_simp):AcLB P ops vs C K b k (o::rest) a:=zag v d hw c hy h
theorem zbv (v:Value) (i:vs b k=v) (hw:Region.wanted o (yielded ops a.tmps)=zt)
 (hy:∀f w,AcF ops k f->C b f w->∀c:Value->zA->Prop,(∀w',C b (λj=>if k=j then zt else f j) w'->c v w')->zfp P c ((execOp a.eval o).run P w))
 (h:AcLB P ops vs C K b (k+1) rest (a.put o.dst v)):AcLB P ops vs C K b k (o::rest) a:=by
 subst i;refine⟨λf w g e=>?_,h⟩;rw[if_pos hw];exact hy f w g e _ λw' d=>⟨b,λ_ _=>rfl,rfl,d⟩
theorem zdc (v:Value) (l:vs b k=v) (hw:Region.wanted o (yielded ops a.tmps)=zt)
 (hy:∀f w,AcF ops k f->C b f w->∀c:Value->zA->Prop,(∀b' w',(∀j,f j=zt->vs b' j=vs b j)->C b' (λj=>if k=j then zt else f j) w'->c (vs b' k) w')->zfp P c ((execOp a.eval o).run P w))
 (h:AcLB P ops vs C K b (k+1) rest (a.put o.dst v)):AcLB P ops vs C K b k (o::rest) a:=by
 subst l;refine⟨λf w g e=>?_,h⟩;rw[if_pos hw];exact hy f w g e _ λb' w' i d=>⟨b',i,rfl,d⟩
end
theorem zk6 {d:β->Nat->Value} {C:β->(Nat->Bool)->zA->Prop} {e:Act->zA->Prop} {b:β}:∀(l:List Oper) (k:Nat) (a:Act),AcLB P ops d C e b k l a->
 (∀i o,l[i]? =zq o->zt1 P ops d C (k+i) o (zbq (d b) k l a i) b)/\(∀f w,(∀i,i<ops.size->f i=zt)->C b f w->e (zbq (d b) k l a l.length) w)
 |[],k,a,c=>⟨λi o c=>by simp at c,c⟩
 |o::l,k,a,⟨hv,c⟩=>by
  obtain⟨j,m⟩:=zk6 l (k+1) _ c;refine⟨λi h g=>?_,?_⟩
  ·cases i with
   |zero=>
    obtain rfl:o=h:=by simpa using g
    simpa [zbq] using hv
   |succ i=>
    have:=j i h (by simpa using g);simp only[zbq];rw[show k+(i+1)=k+1+i by omega];exact this
  ·simp only[zbq,List.length_cons]
   exact m
theorem znn {p:Act->zA->Prop} {Q:Exit->Act->zA->Prop} (y:∀a w,p a w->Q .normal a w) {l:List Oper} (e:β->Nat->Value) (C:β->(Nat->Bool)->zA->Prop) (v:(acB l.toArray&&zfd l.toArray)=zt) {a:Act} {w:zA} (i:β) (x:C i (λ_=>zu) w) (h:∀b,AcLB P l.toArray e C p b 0 l a):
 wpAny P .any l.toArray Q l.toArray.size (Array.replicate l.toArray.size zu) a w:=by
 have r:zax l.toArray (e i) a (Array.replicate l.toArray.size zu) l.toArray.size=a:=by
  have:∀g,zax l.toArray (e i) a (Array.replicate l.toArray.size zu) g=a:=by
   intro g
   induction g with
   |zero=>rfl
   |succ g A=>
    have:(Array.replicate l.toArray.size zu).getD g zu=zu:=by
     simp only[Array.getD];split<;>simp
    simp only[zax,this,Bool.false_eq_true,if_false];exact A
  exact this _
 have:=zw0 (P:=P) (ops:=l.toArray) (Q:=Q) (C:=λb f w=>C b (λc=>f.getD c zu) w) v e a ?_ ?_ l.toArray.size (Array.replicate l.toArray.size zu) w i (by simp) ?_ ?_ ?_
 ·rw[r] at this;exact this
 ·intro b d B q f w j n
  have t:=(zk6 l 0 a (h b)).1;have k:d<l.length:=by
   have:=(Array.getElem?_eq_some_iff.1 q).1;simpa using this
  have o:=t d B (by simpa using q) (λc=>f.getD c zu) w (by rw[Nat.zero_add];exact⟨j.self,j.done,j.closed⟩) n;have m:zax l.toArray (e b) a (zbw l.toArray.size d) l.toArray.size=zbq (e b) 0 l a d:=by
   have:=zdg (e b) l a d (by omega) l.length (zN _);rw[Nat.min_eq_left (by omega)] at this;simpa using this
  have s:(λc=>(f.setIfInBounds d zt).getD c zu)=(λc=>if d=c then zt else f.getD c zu):=by
   funext c;exact zdp f d c (by rw[j.size];simpa using k)
  rw[Nat.zero_add] at o;rw[m];unfold zhn at o;unfold zgx;simp only[s];exact o
 ·intro b f w z n
  have u:=(zk6 l 0 a (h b)).2;have m:zax l.toArray (e b) a (zbw l.toArray.size l.toArray.size) l.toArray.size=zbq (e b) 0 l a l.length:=by
   have:=zdg (e b) l a l.length (zN _) l.length (zN _);rw[Nat.min_self] at this;simpa using this
  rw[m];exact y _ _ (u _ w z n)
 ·intro d c k
  have:(Array.replicate l.toArray.size zu).getD d zu=zu:=by simp only[Array.getD];split<;>simp
  rw[this] at k;cases k
 ·refine zO (List.length_filter_le _ _) (by simp)
 ·have:(λc=>(Array.replicate l.toArray.size zu).getD c zu)= λ_=>zu:=by
   funext c;simp only[Array.getD];split<;>simp
  simpa only[this] using x
theorem zc4 {i:Nat} {Q:Exit->Act->zA->Prop} {a:Act} {w:zA} {l:List Oper} (d:β->Nat->Value) (C:β->(Nat->Bool)->zA->Prop) (g:P.follows .mixedOrders=zt) (e:(acB l.toArray&&zfd l.toArray)=zt) (c:β) (f:C c (λ_=>zu) {w with drawn:=w.drawn+1})
 (h:∀b,AcLB P l.toArray d C (Q .normal) b 0 l a):(Code.region i l.toArray zt).wp P Q a w:=
 wp_region_any g (znn (λ_ _ h=>h) d C e c f h)
theorem zqb {l n o:Nat} {Q:Exit->Act->zA->Prop} {a:Act} {w:zA} {c:List Oper} (e:β->Nat->Value) (C:β->(Nat->Bool)->zA->Prop) (k:P.follows .mixedOrders=zt) (i:(acB c.toArray&&zfd c.toArray)=zt) (m:zhj c.toArray=zt) (d:β) (j:C d (λ_=>zu) {w with drawn:=w.drawn+1})
 (h:∀b,AcLB P c.toArray e C (Q .normal) b 0 c a):(Code.region o c.toArray zt).wpIn (Fence.wide.inRound l) n P Q a w:=
 wpIn_region_any k (zd4 m (Q:=λf a w=>f=.normal/\Q .normal a w) (λ_ _ _ h g=>h g.1) (λ_ _ h=>h.2) _ _ _ _ (znn (λ_ _ h=>⟨rfl,h⟩) e C i d j h))
end
section
open Go.RowKit Go.Shelf Lib Str Limb Geo
attribute [local go_sem] Oper.semAt_some
section
variable {w W W':zA} {x1 y1 x2 y2 x3 y3 x4 y4 lx ly hx hy:List UInt8} {b:Nat×Nat} {f g:Nat->Bool}
end
section
variable {w W W':zA} {x1 y1 x2 y2 x3 y3 x4 y4 fx fy gx gy:List UInt8} {p q:Nat}
end
theorem zok {q:Rat} {k:Nat} (a:0<k) (h:sz q k):digs q.num<=k/\(zD q.den).length<=k:=⟨(za3 _ _ a).2 h.1,(zaf _ _ a).2 h.2⟩
end
section
open Go.RowKit Go.Shelf Lib Str Limb
attribute [local go_sem] Oper.semAt_some
theorem zzg (x u v:List UInt8)
 (k:Hid (qK 216 #[St x] (ze #[St u,St v,zj zm 0]))) (w:zA) (i:Hid (Wd w)):
 qJ 206 #[St x] w (zh #[St u,St v]):=by
 obtain⟨d,b⟩:=zzX (w.alloc (zn #[St [],St []] 285));have e:qL w d:=by rw[b];exact(zM _ w).alloc (zN _) _
 have g:d.heap[w.heap.size]? =zq (zn #[St [],St []] 285 (0,0)):=by rw[b];exact zG w _
 have q:d.heap.size=w.heap.size+1:=by rw[b];simp
 have j:=hid b;clear b;go_enter Tryz.func206,Tryz.ntmps206;go_wp21;have h:=j.out;rw[<-h];clear h;refine zzM (k _ (i.below e)) λc f=>?_;have n:=e.trans (f.mono e.size);have a:c.heap[w.heap.size]? =zq (zn #[St [],St []] 285 (0,0)):=(f.block _ (by omega)).trans g;have l:c.cell? ⟨w.heap.size,0,zp⟩=zq (St []):=by rw[zJ a];rfl
 have m:c.cell? ⟨w.heap.size,1,zp⟩=zq (St []):=by rw[zJ a];rfl
 have o:c.frozen? ⟨w.heap.size,0,zp⟩=zu:=Go.Joins.unfrozen_of_block a 0;have p:c.frozen? ⟨w.heap.size,1,zp⟩=zu:=Go.Joins.unfrozen_of_block a 1;clear g a f;go_wp21;refine bodyPost_ret (v:=zh #[St u,St v]) (by simp[results,Tryz.results206,go_sem,l,m]) rfl ⟨rfl,?_⟩
 repeat(first|exact n|refine Below.setCell ?_ (by simp) _)
theorem zio (q:Rat) (h:okQ q) (w:zA) (hw:Wd w):
 qJ 206 #[St (numS q)] w (zh #[St (zE q.num),St (zD q.den)]):=
 zzg _ _ _ (hid λa b=>zk5 q h a b) w (hid hw)
theorem zkh (x:Int) (w:zA):
 qJ 217 #[St (zE x)] w (zj zm (digs x:Nat)):=by
 obtain⟨e,a⟩:=zzX (⟨(trimPrefix (⟨(zE x).toArray⟩:ByteArray).data.toList [45]).toArray⟩:ByteArray);have c:e.size=digs x:=by
  rw[a];show(trimPrefix (zE x) [45]).toArray.size=_;rw[zbi];simp[digs]
 rw[<-c];have f:=hid a;clear a c;show zC _ _ #[z8 ⟨(zE x).toArray⟩] _ _;generalize (⟨(zE x).toArray⟩:ByteArray)=h at*
 go_enter Tryz.func217,Tryz.ntmps217;go_wp21;refine zzM (Tryz.strings_TrimPrefix _ _ _) λi d=>?_;have g:=d.symm;subst g;have b:=f.out;rw[<-show e=⟨(trimPrefix h.data.toList (⟨#[45]⟩:ByteArray).data.toList).toArray⟩ from b];clear b d;go_wp21;go_ret;exact⟨rfl,zM _ _⟩
theorem zw3 (x u v:List UInt8) (a b:Nat) (w:zA) (h:Hid (Wd w))
 (i:Hid (qK 216 #[St x] (ze #[St u,St v,zj zm 0])))
 (f:Hid (∀c:zA,qJ 217 #[St u] c (zj zm a)))
 (g:Hid (∀c:zA,qJ 217 #[St v] c (zj zm b))):
 qJ 175 #[St x] w (zj zm (max (a:Int) b)):=by
 go_enter Tryz.func175,Tryz.ntmps175;go_wp21;refine zzM (i _ h.out) λl e=>?_;go_wp21;refine zzM (f _) λm j=>?_;go_wp21;refine zzM (g _) λn k=>?_;go_wp21;go_ret;have d:=e.trans (j.mono e.size);exact⟨rfl,d.trans (k.mono d.size)⟩
theorem znp (q:Rat) (h:okQ q) (w:zA) (hw:Wd w):
 qJ 175 #[St (numS q)] w (zj zm (max (digs q.num:Int) (digs (q.den:Int):Nat))):=
 zw3 _ (zE q.num) (zD q.den) _ _ w (hid hw) (hid λa b=>zk5 q h a b) (hid λa=>zkh q.num a) (hid λa=>by have:=zkh (q.den:Int) a;rwa [Str.zad] at this)
end
section
open Go.RowKit Go.Shelf
attribute [local go_sem] Oper.semAt_some
def MkAt (mk:Option Nat) (W:zA):Prop:=∀D,mk=zq D->W.heap[D]? =zq (.deferred (zq []))
section
variable {F:Fence} {n:Nat} {P:Program} {g:Operand} {ps:Array Tmp} {assign body:Code} {Q:Exit->Act->zA->Prop} {a:Act} {w:zA} {gf:Nat} {lb:Array Value}
 {Rd:zA->Prop} {R:Nat->Array Value->Prop} {len:Nat}
theorem z87 (ag:1<=n) (au:a.eval g=.func (.func gf) #[] lb) (aj:F.fn gf) (ae:∀args w,(callFunc gf args).run P w=.ok (.enter gf args) w)
 (ay:IterC F (n-1) P gf lb Rd R len) (aw:∀k args,R k args->args.size=ps.size)
 {B:Nat} (ai:B<=w.heap.size) (I:Nat->zA->Prop) (K:Code->Nat->zA->Prop) (L:∀k b h,I k b->CellsKept b h->zB B b h->I k h) (T:∀c k b h,K c k b->CellsKept b h->zB B b h->K c k h)
 (ak:∀k b,I k b->Rd b) (af:I 0 w)
 (O:Nat->Array Value->Act->zA->Prop) (ah:∀k args m b h,O k args m b->CellsKept b h->zB B b h->O k args m h)
 (f:Nat) (Z:List Deferred) (mk:Option Nat) (x:FuncId->zA) (a6:Nat)
 (aq:∀fn,(Instr.enterLoop fn a.tmps ps assign body F.round).run P w=.ok (f,Z) (x fn))
 (ax:∀fn,(x fn).heap[f]? =zq (.loop {state:=.ready,pending:=zp,fn,tmps:=a.tmps,params:=ps,assign,body,defers:=a6}))
 (Y:w.heap.size<=f) (N:∀D,mk=zq D->w.heap.size<=D/\D≠f) (av:∀fn,MkAt mk (x fn)) (az:∀fn,qL w (x fn)) (ao:∀fn,CellsKept w (x fn))
 (al:∀(l k:Nat) (args:Array Value) (b:zA) (a5:Act->zA->Prop),w.heap.size<=l->(∃r,b.heap[l]? =zq (.loop r))->I k b->k<len->R k args->
   (∀m h,KeepsFrom w.heap.size b h->I k h->O k args m h->a5 m h)->
   assign.wpIn (F.inRound l) (n-1-1) P (Exit.then a5 (λ_ _ _=>False)) {tmps:=(ps.zip args).foldl (λt (p,v)=>t.setIfInBounds p v) a.tmps,defers:=[]} b)
 (an:∀(l k:Nat) (args:Array Value) (m:Act) (b:zA),w.heap.size<=l->(∃r,b.heap[l]? =zq (.loop r))->I k b->k<len->R k args->O k args m b->body.wpIn (F.inRound l) (n-1-1) P (zja w.heap.size I K k b) m b)
 (ap:∀(b:zA),I len b->MkAt mk b->Q .normal {a with defers:=Z++a.defers} b)
 (a':∀(c:Code) (k:Nat) (b:zA),K c k b->MkAt mk b->c.wpIn F n P Q {a with defers:=Z++a.defers} b):
 (Code.rangeFunc g ps assign body).wpIn F n P Q a w:=by
 refine wpIn_rangeFunc λfn ar=>?_;let s:LoopState->Option Code->Obj:=λJ H=>.loop {state:=J,pending:=H,fn,tmps:=a.tmps,params:=ps,assign,body,defers:=a6};let u:LoopState->Option Code->zA->Prop:=λJ H b=>b.heap[f]? =zq (s J H)/\MkAt mk b;have ad:∀J H a4 a3 b,u J H b->u a4 a3 (b.putObj f (s a4 a3)):=λJ H a4 a3 b o=>
  ⟨World.putObj_heap_same (Array.getElem?_eq_some_iff.1 o.1).1,λD d=>(World.putObj_heap_other (N D d).2).trans (o.2 D d)⟩
 refine⟨f,Z,x fn,{target:=.fn (.func gf) lb,args:= #[.func (.yield f) #[] #[]]},x fn,gf,#[.func (.yield f) #[] #[]]++lb,x fn,aq fn,?_,?_,?_,λ_=>ag,?_⟩
 ·simp only[resolve,au]
  simp[go_sem]
 ·intro b4 a9;simp[Target.leads] at a9;subst a9;exact aj
 ·simp[invoke,go_sem,ae]
 refine(ay f (λk b=>I k b/\u .ready zp b) (λb=>∃c k,K c k b/\u .done (zq c) b) _ (λk a0 o=>ak k a0 o.1) (λk a0 E o U=>?_) ?_ ?_).mono ?_
 ·exact⟨L k a0 E o.1 (zac U) (U.mono (by have:=(Array.getElem?_eq_some_iff.1 o.2.1).1;omega)),
   (U.block _ (Array.getElem?_eq_some_iff.1 o.2.1).1).trans o.2.1,λD d=>(U.block _ (Array.getElem?_eq_some_iff.1 (o.2.2 D d)).1).trans (o.2.2 D d)⟩
 ·rintro k args b ⟨M,W⟩ aa a1
  have b0:=run_yield (P:=P) (args:=args) W.1 (aw k args a1);refine⟨fn,_,assign,body,b0,roundIn_of_wpIn ar (al _ k args b _ Y ⟨_,W.1⟩ M aa a1 ?_)⟩;intro m E ab hi2 am;have X:u .ready zp E:=⟨ab.same _ _ Y W.1 rfl,λD d=>ab.same _ _ (N D d).1 (W.2 D d) rfl⟩;refine⟨_,run_beginRound X.1 rfl,?_⟩;have a2:u .busy zp (E.putObj f (s .busy zp)):=ad _ _ _ _ _ X;have a8:=zcw (s .busy zp) X.1 rfl;have ac:=zcx (B:=B) (s .busy zp) X.1 (by omega);refine wpIn_mono (an _ k args m _ Y ⟨_,a2.1⟩ (L k _ _ hi2 a8 ac) aa a1 (ah k args m _ _ am a8 ac)) ?_;have S:∀(j:Option Code) (i:zA),KeepsFrom w.heap.size (E.putObj f (s .busy zp)) i->
   (Instr.endRound f j).run P i=.ok (zg j.isNone) (i.putObj f (s (if j.isNone then .ready else .done) j))/\
   CellsKept i (i.putObj f (s (if j.isNone then .ready else .done) j))/\zB B i (i.putObj f (s (if j.isNone then .ready else .done) j))/\
   u (if j.isNone then .ready else .done) j (i.putObj f (s (if j.isNone then .ready else .done) j)):=λj i q=>by
   have V:u .busy zp i:=⟨q.same _ _ Y a2.1 rfl,λD d=>q.same _ _ (N D d).1 (a2.2 D d) rfl⟩;exact⟨run_endRound j V.1,zcw _ V.1 rfl,zcx _ V.1 (by omega),ad _ _ _ _ _ V⟩
  rintro a7 b2 i G
  cases a7 with
  |normal=>
   obtain⟨q,A⟩:=G;obtain⟨C,z,y,e⟩:=S zp i q;exact⟨_,_,C,.inl ⟨rfl,L _ _ _ A z y,e⟩⟩
  |ret=>
   obtain⟨q,A⟩:=G;obtain⟨C,z,y,e⟩:=S (zq .ret) i q;exact⟨_,_,C,.inr ⟨rfl,_,_,T _ _ _ _ A z y,e⟩⟩
  |exit b1=>
   obtain⟨q,A⟩:=G;obtain⟨C,z,y,e⟩:=S (zq (.exit b1)) i q;exact⟨_,_,C,.inr ⟨rfl,_,_,T _ _ _ _ A z y,e⟩⟩
  |goto t=>
   obtain⟨q,A⟩:=G;obtain⟨C,z,y,e⟩:=S (zq (.goto t)) i q;exact⟨_,_,C,.inr ⟨rfl,_,_,T _ _ _ _ A z y,e⟩⟩
  |panic b3=>exact G.elim
  |outgrown=>exact G.elim
 ·exact⟨L 0 _ _ af (ao fn) ((az fn).mono ai),ax fn,av fn⟩
 ·rintro a7 E ⟨⟨v,rfl⟩,(⟨M,e⟩|⟨c,k,M,e⟩)⟩
  ·exact⟨zp,_,run_endLoop e.1 (by simp),ap _ (L _ _ _ M (zcw _ e.1 rfl) (zcx _ e.1 (by omega))) (λD d=>(World.putObj_heap_other (N D d).2).trans (e.2 D d))⟩
  ·exact⟨zq c,_,run_endLoop e.1 (by simp),a' c k _ (T _ _ _ _ M (zcw _ e.1 rfl) (zcx _ e.1 (by omega))) (λD d=>(World.putObj_heap_other (N D d).2).trans (e.2 D d))⟩
theorem z9z (O:F.round=zp) (y:1<=n) (M:a.eval g=.func (.func gf) #[] lb) (C:F.fn gf) (u:∀args w,(callFunc gf args).run P w=.ok (.enter gf args) w)
 (S:IterC F (n-1) P gf lb Rd R len) (N:∀k args,R k args->args.size=ps.size)
 {B:Nat} (A:B<=w.heap.size) (I:Nat->zA->Prop) (h:Code->Nat->zA->Prop) (E:∀k b d,I k b->CellsKept b d->zB B b d->I k d) (G:∀c k b d,h c k b->CellsKept b d->zB B b d->h c k d)
 (H:∀k b,I k b->Rd b) (x:I 0 w)
 (f:Nat->Array Value->Act->zA->Prop) (z:∀k args e b d,f k args e b->CellsKept b d->zB B b d->f k args e d)
 (J:∀(l k:Nat) (args:Array Value) (b:zA) (o:Act->zA->Prop),w.heap.size<=l->(∃r,b.heap[l]? =zq (.loop r))->I k b->k<len->R k args->
   (∀e d,KeepsFrom w.heap.size b d->I k d->f k args e d->o e d)->
   assign.wpIn (F.inRound l) (n-1-1) P (Exit.then o (λ_ _ _=>False)) {tmps:=(ps.zip args).foldl (λt (p,v)=>t.setIfInBounds p v) a.tmps,defers:=[]} b)
 (K:∀(l k:Nat) (args:Array Value) (e:Act) (b:zA),w.heap.size<=l->(∃r,b.heap[l]? =zq (.loop r))->I k b->k<len->R k args->f k args e b->body.wpIn (F.inRound l) (n-1-1) P (zja w.heap.size I h k b) e b)
 (L:∀(D:Nat) (b:zA),w.heap.size<=D->I len b->b.heap[D]? =zq (.deferred (zq []))->Q .normal {a with defers:={target:=.collected D,args:= #[]}::a.defers} b)
 (T:∀(D:Nat) (c:Code) (k:Nat) (b:zA),w.heap.size<=D->h c k b->b.heap[D]? =zq (.deferred (zq []))->c.wpIn F n P Q {a with defers:={target:=.collected D,args:= #[]}::a.defers} b):
 (Code.rangeFunc g ps assign body).wpIn F n P Q a w:=by
 have q:∀s,qL w ((w.alloc (.deferred (zq []))).alloc s):=λs=>((zM _ w).alloc (zN _) _).alloc (by simp) _;refine z87 y M C u S N A I h E G H x f z (w.heap.size+1) [{target:=.collected w.heap.size,args:= #[]}] (zq w.heap.size) (λfn=>(w.alloc (.deferred (zq []))).alloc (.loop {state:=.ready,pending:=zp,fn,tmps:=a.tmps,params:=ps,assign,body,defers:=w.heap.size})) w.heap.size
  (λfn=>by rw[O];exact run_enterLoop_outer _ _ _ _ _) (λfn=>?_) (by omega) (λD i=>by cases i;omega) (λfn D i=>?_) (λfn=>q _) (λfn=>zac (q _)) J K (λb j m=>L _ b (zN _) j (m _ rfl)) (λc k b j m=>T _ c k b (zN _) j (m _ rfl))
 ·have:=zG (w.alloc (.deferred (zq []))) (.loop {state:=.ready,pending:=zp,fn,tmps:=a.tmps,params:=ps,assign,body,defers:=w.heap.size});rwa [zH] at this
 ·cases i;exact(Below.heap_alloc _ _ _ (by simp)).trans (zG w _)
end
end
section
open Go.RowKit Go.Shelf Lib Str Limb
attribute [local go_sem] Oper.semAt_some
def RowNums (p:Option Addr) (n:Nat) (q:Nat->Rat) (W:zA):Prop:=∀i,i<n->∃b off,p=zq ⟨b,off,zp⟩/\W.cell? ⟨b,off+i,zp⟩=zq (St (numS (q i)))
theorem RowNums.keep {p:Option Addr} {n:Nat} {q:Nat->Rat} {a b:zA} (h:RowNums p n q a) (f:CellsKept a b):RowNums p n q b:=λi g=>let ⟨c,j,d,e⟩:=h i g;⟨c,j,d,f.cell e⟩
theorem zma (q:Rat) (h:0<=q.num) (w:zA):
 zC zF 250 #[St (numS q)] w λe w'=>e=zo (zg zu)/\w'=w:=by
 have b:Lib.hasPrefix (numS q) [45]=zu:=by
  obtain⟨d,j,e,a,_⟩:=dec_head q.num.natAbs;have f:zE q.num=zD q.num.natAbs:=by
   rcases zbg q.num with⟨_,e⟩|⟨i,_⟩
   ·exact e
   ·omega
  have g:d≠45:=λh=>by subst h;simp at a
  unfold numS;rw[f,e];simp[Lib.hasPrefix,List.isPrefixOf,Ne.symm g]
 have a:=Tryz.strings_HasPrefix ⟨(numS q).toArray⟩ ⟨#[45]⟩ w;rw[show(⟨(numS q).toArray⟩:ByteArray).data.toList=numS q from rfl,show(⟨#[45]⟩:ByteArray).data.toList=[45] from rfl,b] at a;show zC _ _ #[z8 ⟨(numS q).toArray⟩] _ _;generalize (⟨(numS q).toArray⟩:ByteArray)=k at*
 have c:=hid a;clear a b;go_enter Tryz.func250,Tryz.ntmps250;go_wp21;refine c.mono ?_;rintro e w' ⟨rfl,rfl⟩;go_wp21;go_ret;exact⟨rfl,rfl⟩
theorem zk7 (n:Nat) (d:(zD n).length<=17) (w:zA) (_:Wd w):
 qJ 243 #[St (zD n)] w (ze #[I n,zg zt]):=by
 have a:=znc (n:Int) (by rw[Str.zad];omega) w;rw[Str.zad] at a;have g:¬(17:Int)<(⟨(zD n).toArray⟩:ByteArray).size:=by
  have:(⟨(zD n).toArray⟩:ByteArray).size=(zD n).length:=by show(zD n).toArray.size=_;simp
  omega
 show zC _ _ #[z8 ⟨(zD n).toArray⟩] _ _;generalize (⟨(zD n).toArray⟩:ByteArray)=h at*
 have b:=hid a;clear a d;go_enter Tryz.func243,Tryz.ntmps243;go_wp21;refine zzM b.out λi c=>?_;go_wp21
 (refine wp_region_quiet_lit (by kernel_rfl) (by kernel_rfl) (WQ.out ?_);(repeat(first|(apply WQ.read (by rfl);(focus(rintro f ⟨n,rfl⟩;go_simp;try with_reducible rfl));try simp only[zzQ])|(apply WQ.skip (by rfl);try simp only[zzQ])));refine WQ.nil ?_;rintro _ ⟨e,rfl⟩)
 go_wp21;go_ret2;exact⟨rfl,zao c e⟩
structure PairS (w:zA) (u v:List UInt8) (pb:Nat) (W:zA):Prop where
 bel:qL w W
 lt:pb<W.heap.size
 hp:W.heap[pb]? =zq (zn #[St u,St v] 285 (0,0))
theorem PairS.next {w:zA} {u v:List UInt8} {d:Nat} {b c:zA} (h:PairS w u v d b) (a:qL b c):PairS w u v d c:=
 ⟨h.bel.trans (a.mono h.bel.size),Nat.lt_of_lt_of_le h.lt a.size,(a.block _ h.lt).trans h.hp⟩
theorem PairS.c0 {w:zA} {u v:List UInt8} {b:Nat} {a:zA} (h:PairS w u v b a):a.cell? ⟨b,0,zp⟩=zq (St u):=by rw[zJ h.hp];rfl
theorem PairS.c1 {w:zA} {u v:List UInt8} {b:Nat} {a:zA} (h:PairS w u v b a):a.cell? ⟨b,1,zp⟩=zq (St v):=by rw[zJ h.hp];rfl
theorem zji (J K:Option Addr) (V W d g:Nat) (a z:Nat->Rat) (a6:d<=100) (a7:g<=100)
 (C:Hid (∀k,k<d->qK 104 #[St (numS (a k))] (zj zm 0)))
 (F:Hid (∀k,k<d->qK 206 #[St (numS (a k))] (zh #[St (zE (a k).num),St (zD (a k).den)])))
 (Z:Hid (∀k,k<d->digs (a k).num<=90/\(zD (a k).den).length<=90))
 (S:Hid (∀k,k<g->∀o:zA,zC zF 250 #[St (numS (z k))] o λe w'=>e=zo (zg zu)/\w'=o))
 (w:zA) (E:Hid (Wd w)) (A:Hid (RowNums J d a w)) (Q:Hid (RowNums K g z w)):
 qJ 204 #[.slice J d V,.slice K g W] w (zj zm 0):=by
 go_enter Tryz.func204,Tryz.ntmps204;go_wp21;go_loopw [13] (λf wr=>∃(k:Nat),k<=d/\f=zj zm (k:Int)/\Hid (qL w wr))
  (λf _=>d-(zL f).toNat)
 case atStart=>exact⟨0,Nat.zero_le _,rfl,zM _ _⟩
 case round=>
  obtain⟨k,a1,rfl,b⟩:=hrel;by_cases hlt:k<d
  ·obtain⟨T,a2,rfl,U⟩:=(A.keep (zac (b.mono (zN _)))) k hlt
   have N:=hid (C k hlt);have P:=hid (F k hlt);obtain⟨z1,z2⟩:=Z k hlt;obtain⟨h,x⟩:=zzX (⟨(trimPrefix (⟨(zE (a k).num).toArray⟩:ByteArray).data.toList (⟨#[45]⟩:ByteArray).data.toList).toArray⟩:ByteArray);have aa:h.size<=90:=by
    rw[x];show(trimPrefix (zE (a k).num) [45]).toArray.size<=90;rw[zbi];simpa [digs] using z1
   have ab:(⟨(zD (a k).den).toArray⟩:ByteArray).size<=90:=by show(zD (a k).den).toArray.size<=90;simpa using z2
   have a9:max (h.size:Int) ((zD (a k).den).length:Int)<=90:=by omega
   have D:=hid x;clear x z1 z2;generalize numS (a k)=a3 at*
   generalize zE (a k).num=m at*
   generalize zD (a k).den=i at*
   have R:Hid (z8 ⟨(trimPrefix (⟨m.toArray⟩:ByteArray).data.toList (⟨#[45]⟩:ByteArray).data.toList).toArray⟩=z8 h):=hid (by rw[D.out]);clear D;go_wp21;refine zzM (N wr (E.below b.out)) λL H=>?_;have q:=hid (b.trans (H.mono b.size));clear H;go_wp21;refine zzM (P L (E.below q.out)) λn I=>?_;have v:=hid (q.trans (I.mono q.size));clear I q b;go_wp21;obtain⟨M,j⟩:=zzX (n.alloc (zn #[St m,St i] 285));rw[<-j];obtain⟨u,s⟩:=zzX n.heap.size;have B:Hid (PairS w m i u M):=by
    have ha:qL n M:=by rw[j];exact(zM _ n).alloc (zN _) _
    exact hid ⟨v.trans (ha.mono v.size),by rw[j,s];simp,by rw[j,s];exact zG n _⟩
   rw[<-s];clear j v s;refine zbl (λ_ o=>PairS w m i u o) (by kernel_rfl) (by kernel_rfl) (by have c:=B.out;exact c.next (zM _ _).drew) ?_;refine qR (zf (zq ⟨u,0,zp⟩)) ?_;refine qR (St m) ?_ (hy:=λp G r c=>by have X:=c.c0;go_simp);simp only[zzQ]
   refine zar (z8 h) (by rfl) (λp G r c a4 a0=>by
    go_simp;refine zzM (Tryz.strings_TrimPrefix _ _ _) λw' t=>?_;have y:=t.symm;subst y;refine⟨?_,a0 _ c⟩;rw[R.out]) ?_
   refine qR (zj zm h.size) ?_;refine qR (zf (zq ⟨u,1,zp⟩)) ?_;simp only[zzQ];refine qR (St i) ?_ (hy:=λp G r c=>by have X:=c.c1;go_simp);refine qR (zj zm (⟨i.toArray⟩:ByteArray).size) ?_;refine qR (zj zm (max (h.size:Int) ((⟨i.toArray⟩:ByteArray).size:Int))) ?_;simp only[zzQ];refine qR (zg zu) ?_;simp only[zzQ];refine zck λp a5 r c=>?_;have Y:=hid c.bel;clear c r p B;go_wp21;go_roundw
   case rel=>exact⟨k+1,by omega,by go_num,Y⟩
   case measure=>simp[zL];omega
  ·clear a1
   go_wp21;clear A C F Z;go_loopw [36] (λf wr=>∃(k:Nat),k<=g/\f=zj zm (k:Int)/\Hid (qL w wr))
    (λf _=>g-(zL f).toNat)
   case atStart=>exact⟨0,Nat.zero_le _,rfl,b⟩
   case round=>
    clear b;obtain⟨l,a8,rfl,b⟩:=hrel;by_cases hlt2:l<g
    ·obtain⟨T,a2,rfl,U⟩:=(Q.keep (zac (b.mono (zN _)))) l hlt2
     have O:=hid (S l hlt2);generalize numS (z l)=a3 at*
     go_wp21;refine zzM (O _) λL t=>?_;have y:=t.symm;subst y;clear t;go_wp21;go_roundw
     case rel=>exact⟨l+1,by omega,by go_num,b⟩
     case measure=>simp[zL];omega
    ·go_wp21
     go_ret;exact⟨rfl,b.out⟩
def prV:Array Value:= #[z8 ⟨#[50]⟩,z8 ⟨#[51]⟩,z8 ⟨#[53]⟩,z8 ⟨#[55]⟩,z8 ⟨#[49,49]⟩,z8 ⟨#[49,51]⟩,z8 ⟨#[49,55]⟩,z8 ⟨#[49,57]⟩,z8 ⟨#[50,51]⟩,z8 ⟨#[50,57]⟩,z8 ⟨#[51,49]⟩,z8 ⟨#[51,55]⟩,z8 ⟨#[52,49]⟩,z8 ⟨#[52,51]⟩,z8 ⟨#[52,55]⟩,z8 ⟨#[53,51]⟩,z8 ⟨#[53,57]⟩,z8 ⟨#[54,49]⟩,z8 ⟨#[54,55]⟩,z8 ⟨#[55,49]⟩,z8 ⟨#[55,51]⟩,z8 ⟨#[55,57]⟩,z8 ⟨#[56,51]⟩,z8 ⟨#[56,57]⟩,z8 ⟨#[57,55]⟩]
structure Pw (w:zA):Prop where
 prim:w.var? zF "kingpost/root.primes" =zq prV
theorem Pw.below {w w':zA} (h:Pw w) (b:qL w w'):Pw w':=by
 have a:Tryz.prog.globalNamed "kingpost/root.primes" =zq 2:=by kernel_rfl
 exact⟨var?_below b a (zv5 a h.prim) h.prim⟩
theorem zrw (w:zA):zC zF 283 #[zj zm 1] w λe w'=>e=zo (zj zm 1)/\w'=w:=by
 go_enter Tryz.func283,Tryz.ntmps283;go_wp21;go_ret;exact⟨rfl,rfl⟩
end
section
open Go.RowKit Go.Shelf Lib Str Limb
open Go.ChangeShapes Go.WideShapes Go.ChangeAt
theorem zf9 {m:Type} {enc:TypeId×Value->m} {a:Assume} {C:Checked} {os:Os} {f:FuncId} {fn:Func} {d:ChangeSpec} {p:List PathCond} {c q r o:Bool} {X:zA->Array Value->Prop}
 (x:∀(w w':zA) (args:Array Value),w.heap=w'.heap->X w args->X w' args)
 (G:ownKnob C.prog.godebug=none) (H:os.Started) (F:C.prog.inits.idxOf? f=none) (y:C.prog.funcs[f]? =some fn)
 (I:∃(w:zA) (b:Tape) (i:Input),w.os=os/\(w.forCall b i).Shaped C.prog/\i.vars=[]/\Input.okWide C.prog (w.forCall b i) .any w.heap.size f i/\
   ((d.pre enc C.prog fn p c (w.forCall b i).memory i.args/\X (w.forCall b i).memory i.args)/\sizedMet enc C.prog fn (OpenSpec.ofChange d) c (w.forCall b i).memory i.args)/\a.holds C.prog (lone (Frame.enter C.prog f i.args .normal) [] (w.forCall b i)))
 (s:∀(g:zA) (args:Array Value) (k l:List (DataW m)) (h:List MemPlace) (base:Nat),
   (∀(j:Nat) t v,fn.params[j]? =some t->args[j]? =some v->Value.okWide C.prog g .any base t v)->
   DataW.Whole enc C.prog fn.params.toList d.vars c g args.toList k l h->X g args->g.ShapedOpen C.prog->
   zC C.prog f args g λe n=>∃v,e=.returned v/\d.post enc C.prog fn c q r o g args v n):
 ReturnsInHanded a C os f .any (λw args=>(d.pre enc C.prog fn p c w args/\X w args)/\sizedMet enc C.prog fn (OpenSpec.ofChange d) c w args) (d.post enc C.prog fn c q r o):=by
 refine returnsInHanded_of_calls G H F I ?_;rintro w b i _ B _ ⟨_,_,_,u,z,_,_,_,_,D⟩ ⟨⟨⟨k,l,h,hw,_⟩,E⟩,_⟩ _;obtain rfl:u=fn:=Option.some.inj (z.symm.trans y);refine(s (w.forCall b i) i.args k l h w.heap.size D (DataW.Whole.of_heap (w':=w.forCall b i) (by rfl) hw) (x _ _ _ (by rfl) E) B).mono ?_;rintro e n ⟨v,rfl,A⟩;exact ChangeSpec.post_blind A
theorem zp7 {q:Type} {enc:TypeId×Value->q} {P:Program} {w:zA} {base:Nat} {y:Nat->Bool} {v:Bool} {c:Nat} {t e:TypeId} {n:Nat} {b:List Value} {i:List (List UInt8)} {p:List MemPlace}
 (l:P.underlying t=some (.array n e)) (u:P.underlying e=some .string) (j:P.cellsOf e=1) (s:P.cellsOf t=n) (C:i.length=n)
 (h:DataW.trod enc P w base y v c t b=some (.agg (i.map λa=>.lit (.string a)),p)):b=i.map λa=>Value.string ⟨a.toArray⟩:=by
 have B:b.length=n:=by
  cases c with
  |zero=>simp[DataW.trod] at h
  |succ c=>
   have d:=h;simp only[DataW.trod,l,j,s,Nat.mul_one] at d;split at d
   ·rename_i f;exact f
   ·cases d
 apply List.ext_getElem?;intro g;by_cases hi:g<n
 ·obtain⟨A,z,E,k,m⟩:=array_elem l h g hi
  rw[j] at m;obtain⟨a,x,o,_⟩:=DataW.trod_string u m;simp only[Prod.mk.injEq] at o;obtain⟨rfl,_⟩:=o;have r:b[g]? =some (.string a):=by
   have:=congrArg (·[0]?) x;simpa [List.getElem?_take,List.getElem?_drop] using this
  rw[List.getElem?_map,Option.map_eq_some_iff] at k;obtain⟨D,f,e⟩:=k;simp only[DataW.lit.injEq,Lit.string.injEq] at e;rw[r,List.getElem?_map,f,e];rfl
 ·rw[List.getElem?_eq_none (by omega),List.getElem?_eq_none (by simp;omega)]
theorem z0v {l:List (String×DataW Unit)} {a:zA} (f:laidMet zF l a) (i:("internal/strconv.uint64pow10",Rows.laid_internal_strconv_uint64pow10)∈l) (j:a.ShapedOpen zF):Wd a:=by
 obtain⟨e,c,o,p,q,h,k,m,b⟩:=Lib.laidMet.reads f i;obtain rfl:e=1:=Option.some.inj (h.symm.trans (by kernel_rfl));obtain rfl:c=289:=Option.some.inj (k.symm.trans (by kernel_rfl));have d:(Rows.laid_internal_strconv_uint64pow10:DataW Unit)=Lib.tabData .u64 Lib.pow10Tab:=by kernel_rfl
 rw[d] at b;have g:=Lib.cells_of_tab (n:=20) Tryz.underlying289 Tryz.underlying243 (by kernel_rfl) (by kernel_rfl) b;refine⟨?_,Proofs.cell_of_shapedOpen_int (t:=3) (zero:= #[.int .i64 0]) j (of_decide_eq_true (by kernel_rfl)) (by kernel_rfl) rfl (by kernel_rfl) (by kernel_rfl) Tryz.underlying3⟩;unfold Lib.TabIs;rw[m,<-g]
theorem zzj:prV.toList=([[50],[51],[53],[55],[49,49],[49,51],[49,55],[49,57],[50,51],[50,57],[51,49],[51,55],[52,49],[52,51],[52,55],[53,51],[53,57],[54,49],[54,55],[55,49],[55,51],[55,57],[56,51],[56,57],[57,55]]:List (List UInt8)).map λs=>z8 ⟨s.toArray⟩:=by kernel_rfl
theorem z0w {l:List (String×DataW Unit)} {a:zA} (f:laidMet zF l a) (i:("kingpost/root.primes",Rows.laid_kingpost_root_primes)∈l):Pw a:=by
 obtain⟨e,o,c,p,q,h,j,k,b⟩:=Lib.laidMet.reads f i;obtain rfl:e=2:=Option.some.inj (h.symm.trans (by kernel_rfl));obtain rfl:o=353:=Option.some.inj (j.symm.trans (by kernel_rfl));have d:(Rows.laid_kingpost_root_primes:DataW Unit)=.agg (([[50],[51],[53],[55],[49,49],[49,51],[49,55],[49,57],[50,51],[50,57],[51,49],[51,55],[52,49],[52,51],[52,55],[53,51],[53,57],[54,49],[54,55],[55,49],[55,51],[55,57],[56,51],[56,57],[57,55]]:List (List UInt8)).map λm=>.lit (.string m)):=by kernel_rfl
 rw[d] at b;have g:=zp7 (n:=25) Tryz.underlying353 Tryz.underlying9 (by kernel_rfl) (by kernel_rfl) (by decide) b;obtain rfl:c=prV:=Array.toList_inj.1 (g.trans zzj.symm);exact⟨k⟩
theorem zrj:ownKnob Tryz.prog.godebug=zp:=by kernel_rfl
theorem zgh:laidOutB zF=zt:=by kernel_rfl
end
end Go.Proofs.YtjmljcdbjakefaaGreatDoor
