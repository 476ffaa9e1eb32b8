/- Where a point lies: what lies beyond all corners is outside; corners lie on sides. Plain laws. -/
import Derived.Test.YtbjomkfgicffhaaGreatDoorQ26
import Derived.Test.YtbjomkfgicffhaaGreatDoorQ16
import Derived.Test.YtbjomkfgicffhaaGreatDoorQ25
import Derived.Test.YtbjomkfgicffhaaGreatDoorQ04
import Derived.Test.YtbjomkfgicffhaaGreatDoorQ05
import Derived.Test.YtbjomkfgicffhaaGreatDoorQ11
import Derived.Test.YtbjomkfgicffhaaGreatDoorQ14
import Derived.Test.YtbjomkfgicffhaaGreatDoorQ27
import Derived.LaidByTextLater
set_option maxRecDepth 100000
set_option maxHeartbeats 8000000
namespace Go.Proofs.YtbjomkfgicffhaaGreatDoor
open Go.RowKit Go.Shelf Lib Str Limb Geo
theorem zui (a b q:Pt):meet a b q q=0\/meet a b q q=1:=by
 have h1:=zu4 q a b
 have h2:=zu3 a b q q
 rw[zo7] at h1
 omega
theorem zto (a b:Pt):meet a b a a=1:=by
 have h1:=zzf a b a
 rcases zui a b a with h|h<;>omega
theorem zlw {a b q:Pt} (h:meet a b q q=1):onR a b q:=by
 by_cases h0:turn a b q=0
 ·rw[zlb h0]
  unfold meet at h
  rw[if_neg (by simp[zo6,h0]),zrg,zo8] at h
  have e:ordP (maxP (low a b) q) (minP (high a b) q)=0:=by unfold maxP minP;omega
  have hf:maxP (low a b) q=minP (high a b) q:=by have:=zas (maxP (low a b) q) (minP (high a b) q);grind
  have m1:=zt6.1 (zhp (maxP (low a b) q))
  have m2:=zt7.1 (zhp (minP (high a b) q))
  rw[<-hf] at m2
  exact⟨le_trans m1.1 m2.2,le_trans m1.2 m2.1⟩
 ·unfold meet at h
  rw[if_pos (.inl h0),if_neg] at h
  ·cases h
  ·rcases znm a b q with e|e|e<;>rw[e]<;>omega
theorem zuj (a b q:Pt):cr a b q=(a.x-q.x)*(b.y-q.y)+(b.x-q.x)*(q.y-a.y):=by unfold cr;grind
theorem zpq {a b:Rat} (ha:0<a) (hb:0<=b):0<=a*b:=Rat.mul_nonneg (by grind) hb
theorem zln {a b q:Pt} (h1:q.x<a.x) (h2:q.x<b.x) (h3:a.y<=q.y) (h4:q.y<b.y):0<turn a b q:=by
 have k1:=zmz (show 0<a.x-q.x by grind) (show 0<b.y-q.y by grind)
 have k2:=zpq (show 0<b.x-q.x by grind) (show 0<=q.y-a.y by grind)
 have e:=zuj a b q
 rw[zgk]
 have:=zaw (cr a b q) 0
 grind
theorem zos {a b q:Pt} (h1:q.x<a.x) (h2:q.x<b.x) (h3:b.y<=q.y) (h4:q.y<a.y):turn a b q<0:=by
 have:=zln h2 h1 h3 h4
 rw[zda] at this
 omega
theorem zkk {a b q:Pt} (h1:a.x<q.x) (h2:b.x<q.x) (h3:a.y<=q.y) (h4:q.y<b.y):turn a b q<0:=by
 have k1:=zmz (show 0<q.x-a.x by grind) (show 0<b.y-q.y by grind)
 have k2:=zpq (show 0<q.x-b.x by grind) (show 0<=q.y-a.y by grind)
 have e:=zuj a b q
 rw[zgk]
 have:=zaw (cr a b q) 0
 have e1:(a.x-q.x)*(b.y-q.y)= -((q.x-a.x)*(b.y-q.y)):=by grind
 have e2:(b.x-q.x)*(q.y-a.y)= -((q.x-b.x)*(q.y-a.y)):=by grind
 grind
theorem zn7 {a b q:Pt} (h1:a.x<q.x) (h2:b.x<q.x) (h3:b.y<=q.y) (h4:q.y<a.y):0<turn a b q:=by
 have:=zkk h2 h1 h3 h4
 rw[zda] at this
 omega
theorem zn8 {a b:Rat}:cmpR a b<=0↔a<=b:=by have:=zaw a b;grind
theorem zjn {a b:Rat}:0<cmpR a b↔b<a:=by have:=zaw a b;grind
theorem zyh {a b:Rat}:cmpR a b<0↔a<b:=by have:=zaw a b;grind
theorem zyi {l:List Pt} {q:Pt} (h:∀k,q.x<(cor l k).x) (k:Nat):ze5 l q k↔((cor l k).y<=q.y/\q.y<(cor l (k+1)).y)\/((cor l (k+1)).y<=q.y/\q.y<(cor l k).y):=by
 unfold ze5
 simp only[zn8,zjn]
 constructor
 ·rintro(⟨h1,h2,_⟩|⟨h1,h2,_⟩)
  ·exact .inl ⟨h1,h2⟩
  ·exact .inr ⟨h1,h2⟩
 ·rintro(⟨h1,h2⟩|⟨h1,h2⟩)
  ·exact .inl ⟨h1,h2,zln (h _) (h _) h1 h2⟩
  ·exact .inr ⟨h1,h2,zos (h _) (h _) h1 h2⟩
theorem zsi {l:List Pt} {q:Pt} (h:∀k,q.x<(cor l k).x):∀k,insI l q k=if((cor l 0).y<=q.y↔(cor l k).y<=q.y) then-1 else 1
 |0=>by rw[insI,if_pos Iff.rfl]
 |k+1=>by
  rw[insI,zsi h k]
  have:=zyi h k
  have n1:∀a b:Rat,a<b↔¬b<=a:=λa b=>Rat.not_le.symm
  rw[n1,n1] at this
  by_cases c0:(cor l 0).y<=q.y<;>by_cases c1:(cor l k).y<=q.y<;>by_cases c2:(cor l (k+1)).y<=q.y<;>simp_all
theorem zlx {l:List Pt} {q:Pt} (h:∀k,¬ze5 l q k):∀k,insI l q k= -1
 |0=>rfl
 |k+1=>by rw[insI,if_neg (h k),zlx h k]
def beyP (l:List Pt) (q:Pt) (n:Nat):Nat->Prop
 |0=>∀k,k<n->cmpR q.x (cor l k).x<0
 |1=>∀k,k<n->0<cmpR q.x (cor l k).x
 |2=>∀k,k<n->cmpR q.y (cor l k).y<0
 |_=>∀k,k<n->0<cmpR q.y (cor l k).y
theorem zly {l:List Pt} {P:Pt->Prop} (hl:0<l.length) (h:∀k,k<l.length->P (cor l k)) (k:Nat):P (cor l k):=by
 have:=h (k%l.length) (Nat.mod_lt _ hl)
 unfold cor at*
 rwa [Nat.mod_mod] at this
theorem zyj (l:List Pt):cor l l.length=cor l 0:=by unfold cor;rw[Nat.mod_self,Nat.zero_mod]
theorem zvz {l:List Pt} {q:Pt} (hl:0<l.length) (j:Nat) (h:beyP l q l.length j):(∀k,¬onS l q k)/\insI l q l.length= -1:=by
 match j,h with
 |0,h=>
  have h':=λk=>zyh.1 (zly (P:=λp=>cmpR q.x p.x<0) hl h k)
  refine⟨λk hk=>?_,by rw[zsi h',zyj,if_pos Iff.rfl]⟩
  have h1:=(zlw hk).1
  have h2:=h' k;have h3:=h' (k+1)
  have:=zaw q.x (cor l k).x;have:=zaw q.x (cor l (k+1)).x
  grind
 |1,h=>
  have h':=λk=>zjn.1 (zly (P:=λp=>0<cmpR q.x p.x) hl h k)
  refine⟨λk hk=>?_,zlx (λk hk=>?_) _⟩
  ·have h1:=(zlw hk).1
   have h2:=h' k;have h3:=h' (k+1)
   have:=zaw q.x (cor l k).x;have:=zaw q.x (cor l (k+1)).x
   grind
  ·unfold ze5 at hk
   simp only[zn8,zjn] at hk
   rcases hk with⟨h1,h2,h3⟩|⟨h1,h2,h3⟩
   ·have:=zkk (h' _) (h' _) h1 h2;omega
   ·have:=zn7 (h' _) (h' _) h1 h2;omega
 |2,h=>
  have h':=λk=>zyh.1 (zly (P:=λp=>cmpR q.y p.y<0) hl h k)
  refine⟨λk hk=>?_,zlx (λk hk=>?_) _⟩
  ·have h1:=(zlw hk).2
   have h2:=h' k;have h3:=h' (k+1)
   have:=zaw q.y (cor l k).y;have:=zaw q.y (cor l (k+1)).y
   grind
  ·unfold ze5 at hk
   simp only[zn8,zjn] at hk
   have h2:=h' k;have h3:=h' (k+1)
   grind
 |(_+3),h=>
  have h':=λk=>zjn.1 (zly (P:=λp=>0<cmpR q.y p.y) hl h k)
  refine⟨λk hk=>?_,zlx (λk hk=>?_) _⟩
  ·have h1:=(zlw hk).2
   have h2:=h' k;have h3:=h' (k+1)
   have:=zaw q.y (cor l k).y;have:=zaw q.y (cor l (k+1)).y
   grind
  ·unfold ze5 at hk
   simp only[zn8,zjn] at hk
   have h2:=h' k;have h3:=h' (k+1)
   grind
end Go.Proofs.YtbjomkfgicffhaaGreatDoor
namespace Go.Proofs.YtbjomkfgicffhaaGreatDoor
open Go.RowKit Go.Shelf Lib Str Limb Geo
attribute [local go_sem] Oper.semAt_some
theorem zv0 (p:Option Addr) (cap n:Nat) (h:n<3) (w:World):
 Calls Tryz.prog 18 #[.slice p n cap] w λe w'=>∃r:Int,e=.returned (.int .i64 r)/\(r=0->False)/\Below w.heap.size w w':=by
 have hn1:decide ((4096:Int)<(n:Int))=false:=decide_eq_false (by omega)
 have hn2:decide ((n:Int)<3)=true:=decide_eq_true (by omega)
 clear h
 go_enter Tryz.func18,Tryz.ntmps18
 go_wp2
 go_ret
 exact⟨_,rfl,by decide,Below.refl _ _⟩
theorem zyk (p:Option Addr) (cap n:Nat) (h:10<n) (G:Prop) (w:World):
 Calls Tryz.prog 5 #[.slice p n cap] w (OnlyP w G):=by
 have hn:decide ((n:Int)<=10)=false:=decide_eq_false (by omega)
 clear h
 go_enter Tryz.func5,Tryz.ntmps5
 go_wp2_with fail
 go_ret
 exact OnlyP.no (Below.refl _ _)
theorem OnlyP.weak {w w':World} {P Q:Prop} {e:Ending} (h:OnlyP w P e w') (k:P->Q):OnlyP w Q e w':=let ⟨b,h1,h2,h3⟩:=h;⟨b,h1,λe=>k (h2 e),h3⟩
theorem z0q (p:Option Addr) (cap:Nat) (l:List (List UInt8×List UInt8)) (w:World) (hw:Wd w) (hp:RowTx p l w):
 Calls Tryz.prog 5 #[.slice p l.length cap] w (OnlyP w (zqn l/\3<=l.length/\l.length<=10)):=by
 by_cases h10:l.length<=10
 ·by_cases h3:3<=l.length
  ·refine(zug p cap l h3 h10 w hw hp).mono λe w' h=>h.weak λk=>⟨k,h3,h10⟩
  ·exact zpm p cap l.length (decide_eq_true (by omega)) _ _ w (hid (zm5 p cap l (by omega) w hw hp)) (hid λ_ W _=>(zv0 p cap l.length (by omega) W).mono λe w' ⟨r,h1,h2,h3⟩=>⟨r,h1,λh=>(h2 h).elim,h3⟩)
 ·exact zyk p cap l.length (by omega) _ w
end Go.Proofs.YtbjomkfgicffhaaGreatDoor
namespace Go.Proofs.YtbjomkfgicffhaaGreatDoor
open Go.RowKit Go.Shelf Lib Str Limb
attribute [local go_sem] Oper.semAt_some
def IdxB (w:World) (f:Nat->Bool) (e:Ending) (w':World):Prop:=∃k:Int,e=.returned (.int .i64 k)/\((k= -1/\∀i,i<4->f i=false)\/(0<=k/\∃i,i<4/\f i=true))/\Below w.heap.size w w'
theorem IdxB.hit {w w':World} {f:Nat->Bool} {k:Nat} (hk:k<4) (h:f k=true) (hb:Below w.heap.size w w'):IdxB w f (.returned (.int .i64 (k:Int))) w':=⟨k,rfl,.inr ⟨by omega,k,hk,h⟩,hb⟩
theorem IdxB.none {w w':World} {f:Nat->Bool} (h:∀i,i<4->f i=false) (hb:Below w.heap.size w w'):IdxB w f (.returned (.int .i64 (-1))) w':=⟨-1,rfl,.inl ⟨rfl,h⟩,hb⟩
theorem ztp (b:Nat) (f:Nat->Bool) (w:World) (HC:Hid (∀W:World,Below w.heap.size w W->∀j,j<4->W.cell? ⟨b,j,none⟩=some (.bool (f j)))):
 Calls Tryz.prog 51 #[.slice (some ⟨b,0,none⟩) 4 4,.bool true] w (IdxB w f):=by
 go_enter Tryz.func51,Tryz.ntmps51
 go_wp2
 go_loopw [8] (λi wr=>∃(k:Nat),k<=4/\i=.int .i64 (k:Int)/\Hid (∀i,i<k->f i=false)/\Hid (Below w.heap.size w wr))
  (λi _=>4-(RowKit.intOf i).toNat)
 case atStart=>exact⟨0,Nat.zero_le _,rfl,λi h=>by omega,Below.refl _ _⟩
 case round=>
  obtain⟨k,hk,rfl,hG,hB⟩:=hrel
  by_cases hlt:k<4
  ·have c0:=HC.out wr hB.out k hlt
   obtain⟨t,ht⟩:∃t,f k=t:=⟨_,rfl⟩
   have HT:=hid ht
   rw[ht] at c0
   clear ht
   cases t
   ·go_wp2_with fail
    go_roundw
    case rel=>exact⟨k+1,by omega,by go_num,λi hi=>(by
     by_cases e:i=k
     ·subst e;exact HT.out
     ·exact hG.out i (by omega)),hB⟩
    case measure=>simp[RowKit.intOf];omega
   ·go_wp2_with fail
    go_ret
    exact IdxB.hit hlt HT.out hB.out
  ·have hkn:k=4:=by omega
   have HK:=hid hkn;clear hkn
   go_wp2_with fail
   go_ret
   exact IdxB.none (by rw[<-HK.out];exact hG.out) hB.out
def anyB (f:Nat->Bool):Bool:=f 0||f 1||f 2||f 3
theorem z2k {f:Nat->Bool} (h:∀i,i<4->f i=false):anyB f=false:=by unfold anyB;rw[h 0 (by omega),h 1 (by omega),h 2 (by omega),h 3 (by omega)];rfl
theorem z0r {f:Nat->Bool} {i:Nat} (hi:i<4) (h:f i=true):anyB f=true:=by
 unfold anyB
 match i,hi,h with
 |0,_,h=>rw[h];rfl
 |1,_,h=>rw[h];simp
 |2,_,h=>rw[h];simp
 |3,_,h=>rw[h];simp
theorem zyl {f:Nat->Bool} (h:anyB f=true):∃i,i<4/\f i=true:=by
 unfold anyB at h
 simp only[Bool.or_eq_true] at h
 rcases h with((h|h)|h)|h
 ·exact⟨0,by omega,h⟩
 ·exact⟨1,by omega,h⟩
 ·exact⟨2,by omega,h⟩
 ·exact⟨3,by omega,h⟩
theorem zot (b:Nat) (f:Nat->Bool) (w:World)
 (F:Hid (Calls Tryz.prog 51 #[.slice (some ⟨b,0,none⟩) 4 4,.bool true] w (IdxB w f))):
 Calls Tryz.prog 17 #[.slice (some ⟨b,0,none⟩) 4 4,.bool true] w λe w'=>e=.returned (.bool (anyB f))/\Below w.heap.size w w':=by
 go_enter Tryz.func17,Tryz.ntmps17
 go_wp2_with fail
 refine F.out.mono ?_
 rintro e w1 ⟨k,rfl,hk,hB⟩
 have HB:=hid hB;clear hB
 rcases hk with⟨rfl,h⟩|⟨h0,i,hi,h⟩
 ·have HA:=hid (z2k h)
  clear h
  go_wp2_with fail
  go_ret
  exact⟨by rw[HA.out];rfl,HB.out⟩
 ·have HA:=hid (z0r hi h)
  clear h hi
  go_wp2_with fail
  go_ret
  exact⟨by rw[HA.out];rfl,HB.out⟩
theorem zsj (b:Nat) (f:Nat->Bool) (w:World) (hc:∀j,j<4->w.cell? ⟨b,j,none⟩=some (.bool (f j))):
 Calls Tryz.prog 17 #[.slice (some ⟨b,0,none⟩) 4 4,.bool true] w λe w'=>e=.returned (.bool (anyB f))/\Below w.heap.size w w':=
 zot b f w (hid (ztp b f w (hid λ_ hb j hj=>(zac hb).cell (hc j hj))))
end Go.Proofs.YtbjomkfgicffhaaGreatDoor
namespace Go.Proofs.YtbjomkfgicffhaaGreatDoor
open Go.RowKit Go.Shelf Lib Str Limb Geo
attribute [local go_sem] Oper.semAt_some
structure PinS (w:World) (px py:List UInt8) (D:Nat) (f:Nat->Bool) (W:World):Prop where
 bel:Below w.heap.size w W
 lt:w.heap.size<D
 hp:W.heap[w.heap.size]? =some (.cells #[St px,St py] 24 (0,0))
 hd:W.heap[D]? =some (.cells #[.bool (f 0),.bool (f 1),.bool (f 2),.bool (f 3)] 38 (0,0))
section
variable {w W W':World} {px py:List UInt8} {D:Nat} {f g:Nat->Bool}
theorem PinS.dlt (h:PinS w px py D f W):D<W.heap.size:=(Array.getElem?_eq_some_iff.1 h.hd).1
theorem PinS.next (h:PinS w px py D f W) (hb:Below W.heap.size W W'):PinS w px py D f W':=
 have hl:=h.dlt;have hl2:=h.lt
 ⟨h.bel.trans (hb.mono h.bel.size),h.lt,(hb.block _ (by omega)).trans h.hp,(hb.block _ hl).trans h.hd⟩
theorem PinS.kp0 (h:PinS w px py D f W):W.cell? ⟨w.heap.size,0,none⟩=some (St px):=by have:=h.hp;simp[World.cell?,this]
theorem PinS.kp1 (h:PinS w px py D f W):W.cell? ⟨w.heap.size,1,none⟩=some (St py):=by have:=h.hp;simp[World.cell?,this]
theorem PinS.kd (h:PinS w px py D f W):∀j,j<4->W.cell? ⟨D,j,none⟩=some (.bool (f j)):=by
 have:=h.hd
 intro j hj
 match j,hj with
 |0,_|1,_|2,_|3,_=>simp[World.cell?,this]
theorem PinS.fz (h:PinS w px py D f W) (j:Nat):W.frozen? ⟨D,j,none⟩=false:=by have:=h.hd;simp[World.frozen?,this]
theorem PinS.put (h:PinS w px py D f W) {j:Nat} (hj:j<4) (v:Bool):PinS w px py D (λi=>if i=j then v else f i) (W.setCell ⟨D,j,none⟩ (.bool v)):=by
 have hl:=h.lt
 refine⟨h.bel.setCell (by simp;omega) _,h.lt,by rw[Below.heap_setCell _ _ _ _ (by simp;omega)];exact h.hp,?_⟩
 rw[Go.Joins.block_setCell h.hd]
 match j,hj with
 |0,_|1,_|2,_|3,_=>rfl
theorem PinS.congr (h:PinS w px py D f W) (e:∀j,j<4->f j=g j):PinS w px py D g W:=by
 obtain⟨a,b,c,d⟩:=h
 rw[e 0 (by omega),e 1 (by omega),e 2 (by omega),e 3 (by omega)] at d
 exact⟨a,b,c,d⟩
end
structure RndP (w:World) (px py:List UInt8) (D:Nat) (f:Nat->Bool) (A:Nat) (x y:Value) (W:World):Prop where
 base:PinS w px py D f W
 lt:D<A
 ha:W.heap[A]? =some (.cells #[x,y] 24 (0,0))
section
variable {w W W':World} {px py:List UInt8} {D A:Nat} {f g:Nat->Bool} {x y x' y':Value}
theorem RndP.next (h:RndP w px py D f A x y W) (hb:Below W.heap.size W W'):RndP w px py D f A x y W':=
 ⟨h.base.next hb,h.lt,(hb.block _ (Array.getElem?_eq_some_iff.1 h.ha).1).trans h.ha⟩
theorem RndP.ka0 (h:RndP w px py D f A x y W):W.cell? ⟨A,0,none⟩=some x:=by have:=h.ha;simp[World.cell?,this]
theorem RndP.ka1 (h:RndP w px py D f A x y W):W.cell? ⟨A,1,none⟩=some y:=by have:=h.ha;simp[World.cell?,this]
theorem RndP.start (h:PinS w px py D f W) (t:TypeId):RndP w px py D f W.heap.size x y ((W.alloc (.cells #[x,y] 24)).alloc (.cells #[x',y'] t)):=by
 have hb1:Below W.heap.size W (W.alloc (.cells #[x,y] 24)):=(Below.refl _ W).alloc (Nat.le_refl _) _
 have hb2:Below (W.alloc (.cells #[x,y] 24)).heap.size (W.alloc (.cells #[x,y] 24)) ((W.alloc (.cells #[x,y] 24)).alloc (.cells #[x',y'] t)):=(Below.refl _ _).alloc (Nat.le_refl _) _
 refine⟨(h.next hb1).next hb2,h.dlt,(hb2.block _ (by simp)).trans (World.alloc_heap_new _ _)⟩
theorem z2l (W:World) (o:Obj) (t:TypeId):((W.alloc o).alloc (.cells #[x',y'] t)).cell? ⟨W.heap.size+1,0,none⟩=some x'/\((W.alloc o).alloc (.cells #[x',y'] t)).cell? ⟨W.heap.size+1,1,none⟩=some y':=by
 have h:=World.alloc_heap_new (W.alloc o) (.cells #[x',y'] t)
 rw[World.size_alloc] at h
 exact⟨by rw[Go.Joins.cell_of_block h];rfl,by rw[Go.Joins.cell_of_block h];rfl⟩
end
def isB (cx cy:Int):Nat->Bool
 |0=>decide (cx<0)
 |1=>decide (0<cx)
 |2=>decide (cy<0)
 |_=>decide (0<cy)
def beyB (cx cy:Nat->Int):Nat->Nat->Bool
 |0,_=>true
 |k+1,j=>beyB cx cy k j&&isB (cx k) (cy k) j
def onK (m:Nat->Int):Nat->Bool
 |0=>false
 |k+1=>if m k=1 then true else onK m k
structure FlgP (w:World) (px py:List UInt8) (D:Nat) (f:Nat->Bool) (F:Nat) (is:Nat->Bool) (W:World):Prop where
 base:PinS w px py D f W
 lt:D<F
 hf:W.heap[F]? =some (.cells #[.bool (is 0),.bool (is 1),.bool (is 2),.bool (is 3)] 4 (0,0))
section
variable {w W W':World} {px py:List UInt8} {D F:Nat} {f g is:Nat->Bool}
theorem FlgP.kf (h:FlgP w px py D f F is W):∀j,j<4->W.cell? ⟨F,j,none⟩=some (.bool (is j)):=by
 have:=h.hf
 intro j hj
 match j,hj with
 |0,_|1,_|2,_|3,_=>simp[World.cell?,this]
theorem FlgP.put (h:FlgP w px py D f F is W) {j:Nat} (hj:j<4) (v:Bool) (e:∀t,t<4->(if t=j then v else f t)=g t):FlgP w px py D g F is (W.setCell ⟨D,j,none⟩ (.bool v)):=
 ⟨(h.base.put hj v).congr e,h.lt,by rw[Below.heap_setCell _ _ _ _ (by have:=h.lt;simp;omega)];exact h.hf⟩
theorem FlgP.start (h:PinS w px py D f W) (cx cy:Int):FlgP w px py D (λt=>if t<0 then f t&&isB cx cy t else f t) W.heap.size (isB cx cy) (W.alloc (.cells #[.bool (decide (cx<0)),.bool (decide (0<cx)),.bool (decide (cy<0)),.bool (decide (0<cy))] 4)):=
 ⟨(h.next ((Below.refl _ W).alloc (Nat.le_refl _) _)).congr (λt _=>by simp),h.dlt,World.alloc_heap_new _ _⟩
end
structure InsQ (b off cap n:Nat) (l:List (List UInt8×List UInt8)) (px py:List UInt8) (X Y:Nat->ByteArray) (r:Int) (m cx cy:Nat->Int):Prop where
 IN:Hid (∀W:World,Wd W->RowTx (some ⟨b,off,none⟩) l W->Calls Tryz.prog 14 #[.slice (some ⟨b,off,none⟩) n cap,.agg #[St px,St py]] W λe w'=>e=.returned (.tuple #[.int .i64 r,.int .i64 0])/\Below W.heap.size W w')
 IK:Hid (∀k,k<n->∀W:World,Wd W->RowTx (some ⟨b,off,none⟩) l W->Calls Tryz.prog 14 #[.slice (some ⟨b,off,none⟩) n cap,.agg #[.string (X k),.string (Y k)]] W λe w'=>e=.returned (.tuple #[.int .i64 0,.int .i64 0])/\Below W.heap.size W w')
 SG:Hid (∀k,∀W:World,Wd W->Calls Tryz.prog 15 #[.agg #[.string (X k),.string (Y k)],.agg #[.string (X (k+1)),.string (Y (k+1))],.agg #[St px,St py],.agg #[St px,St py]] W λe w'=>e=.returned (.tuple #[.int .i64 (m k),.int .i64 0])/\Below W.heap.size W w')
 CX:Hid (∀k,∀W:World,Wd W->Calls Tryz.prog 16 #[St px,.string (X k)] W λe w'=>e=.returned (.tuple #[.int .i64 (cx k),.int .i64 0])/\Below W.heap.size W w')
 CY:Hid (∀k,∀W:World,Wd W->Calls Tryz.prog 16 #[St py,.string (Y k)] W λe w'=>e=.returned (.tuple #[.int .i64 (cy k),.int .i64 0])/\Below W.heap.size W w')
 CL:Hid (∀W:World,RowTx (some ⟨b,off,none⟩) l W->∀k,W.cell? ⟨b,off+k%n*2,none⟩=some (.string (X k))/\W.cell? ⟨b,off+k%n*2+1,none⟩=some (.string (Y k)))
 M:Hid (∀k,m k=0\/m k=1)
 N3:Hid (3<=n/\n<=10)
 E1:Hid ((r==0)=onK m n)
 E2:Hid (anyB (beyB cx cy n)=true->r= -1)
theorem z0s (p:Option Addr) (cap n:Nat) (l:List (List UInt8×List UInt8)) (px py:List UInt8) (G G2:Prop)
 (FI:Hid (∀W:World,Wd W->RowTx p l W->Calls Tryz.prog 5 #[.slice p n cap] W (OnlyP W G)))
 (SH:Hid (∀W:World,Wd W->Calls Tryz.prog 13 #[.slice (some ⟨W.heap.size,0,none⟩) 1 1] (W.alloc (.cells #[St px,St py] 24)) (OnlyP W G2)))
 (w:World) (HW:Hid (Wd w)) (HP:Hid (RowTx p l w)) (AW:Hid (∀W:World,Below w.heap.size w W->Calls Tryz.prog 6 #[] W λe w'=>e=.returned (.bool true)/\Below W.heap.size W w'))
 (GD:Hid (G->G2->∃b off X Y r m cx cy,p=some ⟨b,off,none⟩/\InsQ b off cap n l px py X Y r m cx cy)):
 Calls Tryz.prog 4 #[.slice p n cap,.agg #[St px,St py]] w λe w'=>e=.returned (.bool true)/\Below w.heap.size w w':=by
 obtain⟨W1,hW1⟩:∃W1,W1=w.alloc (.cells #[St px,St py] 24):=⟨_,rfl⟩
 have hb1:Below w.heap.size w W1:=by rw[hW1];exact(Below.refl _ w).alloc (Nat.le_refl _) _
 have hs1:W1.heap.size=w.heap.size+1:=by rw[hW1];simp
 have g1:W1.heap[w.heap.size]? =some (.cells #[St px,St py] 24 (0,0)):=by rw[hW1];exact World.alloc_heap_new w _
 have hfi:=FI.out W1 (HW.out.below hb1) (HP.out.keep (zac hb1))
 have HG1:=hid (⟨hb1,hs1,g1⟩:_/\_/\_)
 rw[hW1] at hfi
 have HFI:=hid hfi;clear hfi hb1 hs1 g1 FI
 have HW1:=hid hW1;clear hW1
 go_enter Tryz.func4,Tryz.ntmps4
 go_wp2_with fail
 refine HFI.out.mono ?_
 rintro e w2 ⟨t,rfl,ht,hB⟩
 have hB':Below W1.heap.size W1 w2:=by rw[HW1.out];exact hB
 obtain⟨hb1,hs1,g1⟩:=HG1.out
 have HB2:=hid (⟨hb1.trans (hB'.mono hb1.size),(hB'.block _ (by omega)).trans g1,by have:=hB'.size;omega⟩:Below w.heap.size w w2/\w2.heap[w.heap.size]? =some (.cells #[St px,St py] 24 (0,0))/\w.heap.size<w2.heap.size)
 have HT:=hid ht
 clear ht hB hB' hb1 hs1 g1 HG1 HFI HW1 W1
 cases t
 case false=>
  go_wp2_with fail
  refine(AW.out w2 HB2.out.1).mono ?_
  rintro e w3 ⟨rfl,hb3⟩
  have HB3:=hid (HB2.out.1.trans (hb3.mono HB2.out.1.size))
  clear hb3
  go_wp2_with fail
  go_ret
  exact⟨rfl,HB3.out⟩
 case true=>
  have k0:w2.cell? ⟨w.heap.size,0,none⟩=some (St px):=by have:=HB2.out.2.1;simp[World.cell?,this]
  have k1:w2.cell? ⟨w.heap.size,1,none⟩=some (St py):=by have:=HB2.out.2.1;simp[World.cell?,this]
  have HSH:=hid (SH.out w2 (HW.out.below HB2.out.1))
  go_wp2_with fail
  refine HSH.out.mono ?_
  rintro e w3 ⟨t,rfl,ht2,hb3⟩
  have HB3:=hid (⟨HB2.out.1.trans (hb3.mono HB2.out.1.size),(hb3.block _ HB2.out.2.2).trans HB2.out.2.1,Nat.lt_of_lt_of_le HB2.out.2.2 hb3.size⟩:Below w.heap.size w w3/\w3.heap[w.heap.size]? =some (.cells #[St px,St py] 24 (0,0))/\w.heap.size<w3.heap.size)
  have HT2:=hid ht2
  clear ht2 hb3 HB2 HSH SH k0 k1
  generalize w2.heap.size=z2 at*
  cases t
  case false=>
   go_wp2_with fail
   refine(AW.out w3 HB3.out.1).mono ?_
   rintro e w4 ⟨rfl,hb4⟩
   have HB4:=hid (HB3.out.1.trans (hb4.mono HB3.out.1.size))
   clear hb4
   go_wp2_with fail
   go_ret
   exact⟨rfl,HB4.out⟩
  case true=>
   obtain⟨b,off,X,Y,r,m,cx,cy,rfl,⟨IN,IK,SG,CX,CY,CL,M,N3,E1,E2⟩⟩:=GD.out (HT.out (by trivial)) (HT2.out (by trivial))
   clear GD HT HT2
   have k0:w3.cell? ⟨w.heap.size,0,none⟩=some (St px):=by have:=HB3.out.2.1;simp[World.cell?,this]
   have k1:w3.cell? ⟨w.heap.size,1,none⟩=some (St py):=by have:=HB3.out.2.1;simp[World.cell?,this]
   have HIN:=hid (IN.out w3 (HW.out.below HB3.out.1) (HP.out.keep (zac HB3.out.1)))
   go_wp2_with fail
   refine HIN.out.mono ?_
   rintro e w4 ⟨rfl,hb4⟩
   have HB4:=hid (⟨HB3.out.1.trans (hb4.mono HB3.out.1.size),(hb4.block _ HB3.out.2.2).trans HB3.out.2.1,Nat.lt_of_lt_of_le HB3.out.2.2 hb4.size⟩:Below w.heap.size w w4/\w4.heap[w.heap.size]? =some (.cells #[St px,St py] 24 (0,0))/\w.heap.size<w4.heap.size)
   clear hb4 HB3 HIN IN k0 k1
   have hS:PinS w px py w4.heap.size (beyB cx cy 0) (w4.alloc (.cells #[.bool true,.bool true,.bool true,.bool true] 38)):=by
    have hb:Below w4.heap.size w4 (w4.alloc (.cells #[.bool true,.bool true,.bool true,.bool true] 38)):=(Below.refl _ w4).alloc (Nat.le_refl _) _
    exact⟨HB4.out.1.trans (hb.mono HB4.out.1.size),HB4.out.2.2,(hb.block _ HB4.out.2.2).trans HB4.out.2.1,World.alloc_heap_new _ _⟩
   have HS:=hid hS
   clear hS HB4
   go_wp2_with fail
   obtain⟨W4,hW4⟩:∃W4,W4=w4.alloc (.cells #[.bool true,.bool true,.bool true,.bool true] 38):=⟨_,rfl⟩
   rw[<-hW4] at HS⊢
   clear hW4
   generalize w4.heap.size=D at*
   go_loopw [41,7] (λi on wr=>∃(k:Nat),k<=n/\i=.int .i64 (k:Int)/\on=.bool (onK m k)/\Hid (PinS w px py D (beyB cx cy k) wr))
    (λi _ _=>n-(RowKit.intOf i).toNat)
   case atStart=>exact⟨0,Nat.zero_le _,rfl,rfl,HS⟩
   case round=>
    obtain⟨k,hk,rfl,rfl,hS⟩:=hrel
    clear HS
    by_cases hlt:k<n
    ·have hr:=HP.out.keep (zac hS.out.bel)
     obtain⟨c0,c1⟩:=CL.out wr hr k
     obtain⟨d0,d1⟩:=CL.out wr hr (k+1)
     have ht:=zj8 k n
     have hn0:¬n=0:=by omega
     have hwr:IntKind.i64.wrap ((k:Int)+1)=(k:Int)+1:=IntWalk.i64_in _ (by have:=N3.out;omega)
     have hkk:(k+1)%n<n:=Nat.mod_lt _ (by omega)
     rw[Nat.mod_eq_of_lt hlt] at c0 c1
     generalize (k+1)%n=k' at*
     have hal:Below wr.heap.size wr (wr.alloc (.cells #[.string (X k),.string (Y k)] 24)):=(Below.refl _ wr).alloc (Nat.le_refl _) _
     have e0:=(zac hal).cell d0
     have e1:=(zac hal).cell d1
     have HR:=hid (RndP.start (x:=.string (X k)) (y:=.string (Y k)) (x':=.string (X (k+1))) (y':=.string (Y (k+1))) hS.out 24)
     have HSG:=hid (SG.out k _ (HW.out.below HR.out.base.bel))
     have f0:=HR.out.ka0;have f1:=HR.out.ka1
     have f2:=HR.out.base.kp0;have f3:=HR.out.base.kp1
     obtain⟨g0,g1⟩:=z2l (x':=.string (X (k+1))) (y':=.string (Y (k+1))) wr (.cells #[.string (X k),.string (Y k)] 24) 24
     clear hr hal d0 d1
     go_wp2_with fail
     refine HSG.out.mono ?_
     rintro e w5 ⟨rfl,hb5⟩
     have HR5:=hid (HR.out.next hb5)
     clear hb5 HR HSG SG f0 f1 f2 f3 g0 g1 e0 e1 c0 c1 hS
     generalize wr.heap.size=A at*
     have hm:=M.out k
     have HIK:=hid (IK.out k hlt w5 (HW.out.below HR5.out.base.bel) (HP.out.keep (zac HR5.out.base.bel)))
     have f0:=HR5.out.ka0;have f1:=HR5.out.ka1
     obtain⟨on,hon,hq⟩:∃on,onK m (k+1)=on/\(m k=0/\onK m k=on\/m k=1/\on=true):=⟨_,rfl,by
      rcases hm with h|h
      ·exact .inl ⟨h,by rw[onK,h];rfl⟩
      ·exact .inr ⟨h,by rw[onK,h];rfl⟩⟩
     have HON:=hid hon
     clear hon hm
     rcases hq with⟨hm,h1⟩|⟨hm,rfl⟩
     case' inl=>
      rw[h1]
      go_wp2_with fail
      clear h1
     case' inr=>go_wp2_with fail
     all_goals
      refine HIK.out.mono ?_
      rintro e w6 ⟨rfl,hb6⟩
      have HR6:=hid (HR5.out.next hb6)
      clear hb6 HIK f0 f1 HR5 hm
      have HCX:=hid (CX.out k w6 (HW.out.below HR6.out.base.bel))
      have f0:=HR6.out.ka0;have f1:=HR6.out.base.kp0
      go_wp2_with fail
      refine HCX.out.mono ?_
      rintro e w7 ⟨rfl,hb7⟩
      have HR7:=hid (HR6.out.next hb7)
      clear hb7 HCX f0 f1 HR6
      have HCY:=hid (CY.out k w7 (HW.out.below HR7.out.base.bel))
      have f0:=HR7.out.ka1;have f1:=HR7.out.base.kp1
      go_wp2_with fail
      refine HCY.out.mono ?_
      rintro e w8 ⟨rfl,hb8⟩
      have HS8:=hid (HR7.out.base.next hb8)
      clear hb8 HCY f0 f1 HR7
      have HF:=hid (FlgP.start HS8.out (cx k) (cy k))
      go_wp2_with fail
      obtain⟨W9,hW9⟩:∃W9,W9=w8.alloc (.cells #[.bool (decide (cx k<0)),.bool (decide (0<cx k)),.bool (decide (cy k<0)),.bool (decide (0<cy k))] 4):=⟨_,rfl⟩
      rw[<-hW9] at HF⊢
      clear hW9 HS8
      generalize w8.heap.size=F at*
      go_loopw [118] (λi wr=>∃(j:Nat),j<=4/\i=.int .i64 (j:Int)/\Hid (FlgP w px py D (λt=>if t<j then beyB cx cy k t&&isB (cx k) (cy k) t else beyB cx cy k t) F (isB (cx k) (cy k)) wr))
       (λi _=>4-(RowKit.intOf i).toNat)
      case atStart=>exact⟨0,Nat.zero_le _,rfl,HF⟩
      case round=>
       obtain⟨j,hj,rfl,hF⟩:=hrel
       clear HF
       by_cases hjt:j<4
       ·have c0:=hF.out.kf j hjt
        have d0:=hF.out.base.kd j hjt
        have z0:=hF.out.base.fz j
        rw[if_neg (Nat.lt_irrefl _)] at d0
        have HP1:=hid (λ(v:Bool) (hv:v=(beyB cx cy k j&&isB (cx k) (cy k) j))=>hF.out.put (g:=λt=>if t<j+1 then beyB cx cy k t&&isB (cx k) (cy k) t else beyB cx cy k t) hjt v (λt _=>by
         by_cases e:t=j
         ·subst e;rw[if_pos rfl,if_pos (by omega)];exact hv
         ·rw[if_neg e]
          by_cases e2:t<j
          ·rw[if_pos e2,if_pos (by omega)]
          ·rw[if_neg e2,if_neg (by omega)]))
        clear hF
        generalize beyB cx cy k j=bj at*
        generalize isB (cx k) (cy k) j=ij at*
        cases bj
        ·go_wp2_with fail
         go_roundw
         case rel=>exact⟨j+1,by omega,by go_num,HP1.out false (by rfl)⟩
         case measure=>simp[RowKit.intOf];omega
        ·go_wp2_with fail
         go_roundw
         case rel=>exact⟨j+1,by omega,by go_num,HP1.out ij (by rfl)⟩
         case measure=>simp[RowKit.intOf];omega
       ·obtain rfl:j=4:=by omega
        have HN:=hid (hF.out.base.congr (g:=beyB cx cy (k+1)) λt ht=>by rw[if_pos ht];rfl)
        clear hF
        go_wp2_with fail
        go_roundw
        case rel=>exact⟨k+1,by omega,by go_num,by rw[HON.out],HN⟩
        case measure=>simp[RowKit.intOf];omega
    ·obtain rfl:n=k:=by omega
     have HCB:=hid (zsj D (beyB cx cy n) wr hS.out.kd)
     have he:=E1.out
     go_wp2_with fail
     refine HCB.out.mono ?_
     rintro e w9 ⟨rfl,hb9⟩
     have HB9:=hid (hS.out.bel.trans (hb9.mono hS.out.bel.size))
     clear hb9 HCB hS
     have h2:=E2.out
     generalize anyB (beyB cx cy n)=t at*
     clear E2 E1
     cases t
     case' false=>clear h2
     case' true=>have hr:=h2 rfl;clear h2
     all_goals
      go_wp2_with fail
      refine(AW.out w9 HB9.out).mono ?_
      rintro e w10 ⟨rfl,hb10⟩
      have HB10:=hid (HB9.out.trans (hb10.mono HB9.out.size))
      clear hb10
      go_wp2_with fail
      go_ret
      exact⟨rfl,HB10.out⟩
end Go.Proofs.YtbjomkfgicffhaaGreatDoor
namespace Go.Proofs.YtbjomkfgicffhaaGreatDoor
open Go.RowKit Go.Shelf Lib Str Limb Geo
theorem RowTx.one (W:World) (t:TypeId) (a b:List UInt8):RowTx (some ⟨W.heap.size,0,none⟩) [(a,b)] (W.alloc (.cells #[St a,St b] t)):=by
 have A:=World.alloc_heap_new W (.cells #[St a,St b] t)
 intro i hi
 refine⟨_,_,rfl,?_⟩
 match i,hi with
 |0,_=>exact⟨by rw[Go.Joins.cell_of_block A];rfl,by rw[Go.Joins.cell_of_block A];rfl⟩
theorem ziq {p:Option Addr} {q:List Pt} {W:World} (h:RowTx p (txt q) W):RowPts p q W:=λi hi=>h i (by rw[za2];exact hi)
def insR (l:List Pt) (q:Pt):Int:=if(List.range l.length).any (λk=>meet (cor l k) (cor l (k+1)) q q==1)=true then 0 else insI l q l.length
theorem z3j (l:List Pt) (q:Pt):(List.range l.length).any (λk=>meet (cor l k) (cor l (k+1)) q q==1)=true↔∃k,k<l.length/\onS l q k:=by
 rw[List.any_eq_true]
 constructor
 ·rintro⟨k,h1,h2⟩;exact⟨k,List.mem_range.1 h1,beq_iff_eq.1 h2⟩
 ·rintro⟨k,h1,h2⟩;exact⟨k,List.mem_range.2 h1,beq_iff_eq.2 h2⟩
theorem zuk {l:List Pt} {q:Pt} {r:Int} (h:((∃k,k<l.length/\onS l q k)/\r=0)\/((∀k,k<l.length->¬onS l q k)/\r=insI l q l.length)):r=insR l q:=by
 unfold insR
 rcases h with⟨h,e⟩|⟨h,e⟩
 ·rw[if_pos ((z3j l q).2 h),e]
 ·rw[if_neg (λc=>let ⟨k,h1,h2⟩:=(z3j l q).1 c;h k h1 h2),e]
theorem zul {m:Nat->Int}:∀{n:Nat},onK m n=true↔∃k,k<n/\m k=1
 |0=>by simp[onK]
 |n+1=>by
  rw[onK]
  by_cases h:m n=1
  ·rw[if_pos h];exact⟨λ_=>⟨n,by omega,h⟩,λ_=>rfl⟩
  ·rw[if_neg h,zul (n:=n)]
   constructor
   ·rintro⟨k,h1,h2⟩;exact⟨k,by omega,h2⟩
   ·rintro⟨k,h1,h2⟩
    by_cases e:k=n
    ·subst e;exact absurd h2 h
    ·exact⟨k,by omega,h2⟩
theorem zsk {cx cy:Nat->Int} {j:Nat}:∀{n:Nat},beyB cx cy n j=true->∀k,k<n->isB (cx k) (cy k) j=true
 |0,_,k,hk=>absurd hk (by omega)
 |n+1,h,k,hk=>by
  rw[beyB,Bool.and_eq_true] at h
  by_cases e:k=n
  ·subst e;exact h.2
  ·exact zsk h.1 k (by omega)
theorem zv1 {l:List Pt} {q:Pt} (h3:0<l.length) (h:anyB (beyB (λk=>cmpR q.x (cor l k).x) (λk=>cmpR q.y (cor l k).y) l.length)=true):insR l q= -1:=by
 obtain⟨j,hj,hb⟩:=zyl h
 have h':=zsk hb
 have hp:beyP l q l.length j:=by
  match j,hj,h' with
  |0,_,h'=>exact λk hk=>of_decide_eq_true (h' k hk)
  |1,_,h'=>exact λk hk=>of_decide_eq_true (h' k hk)
  |2,_,h'=>exact λk hk=>of_decide_eq_true (h' k hk)
  |3,_,h'=>exact λk hk=>of_decide_eq_true (h' k hk)
 obtain⟨h1,h2⟩:=zvz h3 j hp
 rw[<-zuk (.inr ⟨λk _=>h1 k,rfl⟩)]
 exact h2
theorem z3a {l:List Pt} {q:Pt}:(insR l q==0)=onK (λk=>meet (cor l k) (cor l (k+1)) q q) l.length:=by
 rw[Bool.eq_iff_iff,zul,beq_iff_eq]
 unfold insR
 constructor
 ·intro h
  by_cases c:∃k,k<l.length/\onS l q k
  ·exact c
  ·rw[if_neg (λd=>c ((z3j l q).1 d))] at h
   rcases zm6 l q l.length with e|e<;>omega
 ·intro h
  rw[if_pos ((z3j l q).2 h)]
theorem z2m (p:Option Addr) (cap:Nat) (l:List (List UInt8×List UInt8)) (px py:List UInt8)
 (w:World) (AW:Hid (∀W:World,Below w.heap.size w W->Calls Tryz.prog 6 #[] W λe w'=>e=.returned (.bool true)/\Below W.heap.size W w')) (hw:Wd w) (hp:RowTx p l w):
 Calls Tryz.prog 4 #[.slice p l.length cap,.agg #[St px,St py]] w λe w'=>e=.returned (.bool true)/\Below w.heap.size w w':=by
 refine z0s p cap l.length l px py (zqn l/\3<=l.length/\l.length<=10) (zlu (px,py)) (hid λW hW hr=>z0q p cap l W hW hr) (hid λW hW=>?_) w (hid hw) (hid hp) AW (hid ?_)
 ·have hal:Below W.heap.size W (W.alloc (.cells #[St px,St py] 24)):=(Below.refl _ W).alloc (Nat.le_refl _) _
  refine(zm5 (some ⟨W.heap.size,0,none⟩) 1 [(px,py)] (by simp) _ (hW.below hal) (RowTx.one W _ _ _)).mono ?_
  rintro e w' ⟨b,rfl,h,hb⟩
  exact⟨b,rfl,λe=>h.1 e 0 (by simp),hal.trans (hb.mono hal.size)⟩
 ·rintro⟨⟨q,rfl,hz,hs,hm⟩,h3,h10⟩ ⟨g1,g2,g3,g4⟩
  rw[za2] at h3 h10⊢
  obtain⟨a,ha⟩:=(zlq _).1 g3
  obtain⟨c,hc⟩:=(zlq _).1 g4
  have g3':px=numS a:=ha
  have g4':py=numS c:=hc
  have z1:sz a 12:=zih (by omega) (by rw[<-g3'];exact g1)
  have z2:sz c 12:=zih (by omega) (by rw[<-g4'];exact g2)
  obtain⟨v,hv⟩:∃v:Pt,v=⟨a,c⟩:=⟨_,rfl⟩
  have hq36:szP v 36:=by rw[hv];exact⟨z1.mono (by omega),z2.mono (by omega)⟩
  have hz36:∀i,szP (cor q i) 36:=λi=>zuf (P:=λp=>szP p 36) (λp hp=>⟨(hz p hp).1.mono (by omega),(hz p hp).2.mono (by omega)⟩) ⟨zjb _ (by omega),zjb _ (by omega)⟩ i
  have ex:px=numS v.x:=by rw[hv];exact g3'
  have ey:py=numS v.y:=by rw[hv];exact g4'
  subst ex;subst ey
  clear ha hc g1 g2 g3 g4 g3' g4' z1 z2
  obtain⟨b,off,hpb,_⟩:=zhi (ziq hp) 0 (by omega)
  subst hpb
  refine⟨b,off,λk=>⟨(numS (cor q k).x).toArray⟩,λk=>⟨(numS (cor q k).y).toArray⟩,insR q v,λk=>meet (cor q k) (cor q (k+1)) v v,λk=>cmpR v.x (cor q k).x,λk=>cmpR v.y (cor q k).y,rfl,?_⟩
  refine⟨hid λW hW hr=>?_,hid λk hk W hW hr=>?_,hid λk W hW=>?_,hid λk W hW=>?_,hid λk W hW=>?_,hid λW hr k=>?_,hid λk=>zui _ _ _,hid ⟨h3,h10⟩,hid z3a,hid (zv1 (by omega))⟩
  ·refine(zll _ cap q v h3 (by omega) hz36 hq36 hs hm W hW (ziq hr)).mono ?_
   rintro e w' ⟨r,rfl,h,hb⟩
   exact⟨by rw[zuk h],hb⟩
  ·refine(zll _ cap q (cor q k) h3 (by omega) hz36 (hz36 k) hs hm W hW (ziq hr)).mono ?_
   rintro e w' ⟨r,rfl,h,hb⟩
   rcases h with⟨_,rfl⟩|⟨h,_⟩
   ·exact⟨rfl,hb⟩
   ·exact absurd (zto _ _) (h k hk)
  ·exact zs6 _ _ _ _ (hz36 _) (hz36 _) hq36 hq36 W hW
  ·exact zgq _ _ 36 36 (by omega) (by omega) (by omega) hq36.1 (hz36 k).1 W hW
  ·exact zgq _ _ 36 36 (by omega) (by omega) (by omega) hq36.2 (hz36 k).2 W hW
  ·obtain⟨b',off',e,h1,h2⟩:=zhi (ziq hr) k (by omega)
   obtain⟨rfl,rfl⟩:b=b'/\off=off':=by simpa using e
   exact⟨h1,h2⟩
end Go.Proofs.YtbjomkfgicffhaaGreatDoor
namespace Go.Proofs.YtbjomkfgicffhaaGreatDoor
open Go.RowKit Go.Shelf Lib Str Limb
open Go.ChangeShapes Go.WideShapes Go.ChangeAt
theorem za5 {α:Type} (P:Nat->α->Prop):∀n,(∀i,i<n->∃x,P i x)->∃l:List α,l.length=n/\∀i (h:i<l.length),P i l[i]
 |0,_=>⟨[],rfl,λi h=>by simp at h⟩
 |n+1,h=>by
  obtain⟨l,hl,hP⟩:=za5 P n (λi hi=>h i (by omega))
  obtain⟨x,hx⟩:=h n (by omega)
  refine⟨l++[x],by simp[hl],λi hi=>?_⟩
  by_cases e:i<l.length
  ·rw[List.getElem_append_left e];exact hP i e
  ·have:i=n:=by simp at hi;omega
   subst this
   rw[List.getElem_append_right (by omega)]
   simpa using hx
theorem ztq {H:Type} {enc:TypeId×Value->H} {W:World} {base:Nat} {sp:Nat->Bool} {held:Bool} {v:Value} {d:DataW H} {ps:List MemPlace} {r:Reach} {b0:Nat}
 (hval:Value.okWide Tryz.prog W r b0 26 v) (hd:DataW.Trod enc Tryz.prog W base sp held 26 v d ps):∃(p:Option Addr) (cap:Nat) (l:List (List UInt8×List UInt8)),v=.slice p l.length cap/\RowTx p l W:=by
 obtain⟨p,len,cap,rfl⟩:=okWide_slice Tryz.underlying26 hval
 obtain⟨fuel,hf⟩:=hd
 rcases DataW.trod_slice Tryz.underlying26 hf with⟨hcs,hx⟩|⟨a,len',cap',elems,rest,n,_,hcs,hx,hb,hl,hm,hlen,hel,_,_⟩
 ·simp[Value.cells] at hcs
  obtain⟨rfl,rfl,rfl⟩:=hcs
  exact⟨none,0,[],rfl,λi hi=>by simp at hi⟩
 simp[Value.cells] at hcs
 obtain⟨rfl,rfl,rfl⟩:=hcs
 rw[show Tryz.prog.cellsOf 24=2 by kernel_rfl] at hel
 have each:∀i,i<len->∃x:List UInt8×List UInt8,W.cell? (a.add (i*2))=some (St x.1)/\W.cell? ((a.add (i*2)).add 1)=some (St x.2):=by
  intro i hi
  have h1:=hel i hi
  rw[List.getElem?_eq_getElem (by omega),Option.bind_eq_some_iff] at h1
  obtain⟨cs,hcs,htr⟩:=h1
  obtain⟨_,hcl,hce⟩:=World.cells?_some hcs
  obtain⟨y0,y1,n',_,_,h0,h1⟩:=trod_struct2 Tryz.underlying24 htr
  obtain⟨s0,e0,_,_⟩:=DataW.trod_string Tryz.underlying22 h0
  obtain⟨s1,e1,_,_⟩:=DataW.trod_string Tryz.underlying22 h1
  rw[show Tryz.prog.cellsOf 22=1 by kernel_rfl] at e0 e1
  match cs,hcl with
  |[c0,c1],_=>
   have k0:c0=.string s0:=by simpa using e0
   have k1:c1=.string s1:=by simpa using e1
   subst k0;subst k1
   have g0:=hce 0 (by omega);have g1:=hce 1 (by omega)
   refine⟨(s0.data.toList,s1.data.toList),?_,?_⟩
   ·simpa [St,Addr.add] using g0
   ·simpa [St,Addr.add] using g1
 obtain⟨l,hll,hP⟩:=za5 _ len each
 subst hll
 refine⟨some a,cap,l,rfl,λi hi=>?_⟩
 obtain⟨h0,h1⟩:=hP i hi
 obtain⟨b,off,spot⟩:=a
 have hspot:spot=none:=by simpa [Addr.add] using World.cell?_spot (hP 0 (by omega)).1
 subst hspot
 have ap:∀k,(⟨b,off,none⟩:Addr).add k=⟨b,off+k,none⟩:=λk=>by unfold Addr.add;split<;>simp_all
 have ap1:∀k,(⟨b,off+k,none⟩:Addr).add 1=⟨b,off+k+1,none⟩:=λk=>by unfold Addr.add;simp
 rw[ap] at h0 h1
 rw[ap1] at h1
 have ep:ptOf l i=l[i]:=by unfold ptOf;rw[List.getElem?_eq_getElem hi];rfl
 rw[ep]
 exact⟨b,off,rfl,h0,h1⟩
theorem zkd (os:Os) (started:os.Started) (H:Type) (enc:TypeId×Value->H):
 ReturnsInHanded {} Tryz.checked os 4 .any (λw args=>(Rows.polygonInsideSpec.pre enc Tryz.prog Tryz.f4 [] false w args/\laidMetH Tryz.prog Rows.polygonInsideRow.laid w)/\sizedMet enc Tryz.prog Tryz.f4 (OpenSpec.ofChange Rows.polygonInsideSpec) false w args)
  (Rows.polygonInsideSpec.post enc Tryz.prog Tryz.f4 false true false false):=by
 refine zf9 (C:=Tryz.checked) (X:=λw _=>laidMetH Tryz.prog Rows.polygonInsideRow.laid w) (λ_ _ _ hh h=>h.of_heap hh) zrj started (by kernel_rfl) Tryz.func4
  (ChangeSpec.witness_shaped (enc:=enc) (C:=Tryz.checked) (os:=os) (X:=λw _=>laidMetH Tryz.prog Rows.polygonInsideRow.laid w) false (World.laidAll Tryz.prog os Rows.polygonInsideRow.laid)
    #[.slice none 0 0,.agg #[.string ⟨#[]⟩,.string ⟨#[]⟩]] 8 (World.laidAll_os _ _ _)
    (World.shaped_of_ZipB (by kernel_rfl) (by kernel_rfl)) (by kernel_rfl) (by kernel_rfl) (by kernel_rfl)
    (by rw[MakeChecks.laidMetH_plain _ _ _ (by kernel_rfl)];exact laidMet_laidAll _ (by kernel_rfl) (by kernel_rfl))) ?_
 intro W args ds gs before base hval0 hW hL hsh
 have hval:∀(j:Nat) t v,Tryz.f4.params[j]? =some t->args[j]? =some v->Value.okWide Tryz.prog W .any base t v:=hval0
 have hW':=hW
 obtain⟨p,q,hA0,hV,rfl,_,_⟩:=hW
 have hA:DataW.TrodAll enc Tryz.prog W 0 (λ_=>true) true Tryz.f4.params.toList args.toList ds p:=hA0
 rw[Tryz.params4] at hA hval
 obtain⟨v0,vs0,d0,ds0,p0,q0,e0,rfl,rfl,h0,hA⟩:=trodAll_cons hA
 obtain⟨v1,vs1,d1,ds1,p1,q1,rfl,rfl,rfl,h1,hA⟩:=trodAll_cons hA
 obtain⟨rfl,rfl,rfl⟩:=trodAll_nil hA
 obtain rfl:args= #[v0,v1]:=by cases args;simp_all
 obtain⟨rfl,rfl⟩:=trodVars_none hV
 simp only[List.append_nil] at hW'
 have hlt:∀x∈p0++p1,x.block<W.heap.size:=λx hx=>by simpa using hW'.lt x hx
 have k0:=h0
 have k1:=h1
 obtain⟨p,cap,l,rfl,hr⟩:=ztq (hval 0 26 v0 rfl rfl) h0
 obtain⟨x,y,rfl,rfl⟩:=zhe (hval 1 24 v1 rfl rfl) h1
 have hM:laidMet Tryz.prog Rows.polygonInsideRow.laid W:=by rw[<-MakeChecks.laidMetH_plain _ _ _ (by kernel_rfl)];exact hL
 have hwd:Wd W:=z0v hM (.tail _ (.tail _ (.head _))) hsh
 have hpw:Pw W:=z0w hM (.tail _ (.tail _ (.tail _ (.tail _ (.tail _ (.tail _ (.head _)))))))
 refine(z2m p cap l x y W (hid λX hX=>zsh X (hid λY hY=>⟨hwd.below (hX.trans (hY.mono hX.size)),hpw.below (hX.trans (hY.mono hX.size))⟩)) hwd hr).mono λe W' ⟨he,hb⟩=>?_
 subst he
 have t0:=Below.trod zgh (by kernel_rfl) (of_decide_eq_true (by kernel_rfl)) k0 hb (λx hx=>hlt x (List.mem_append_left _ hx))
 have t1:=Below.trod zgh (by kernel_rfl) (of_decide_eq_true (by kernel_rfl)) k1 hb (λx hx=>by cases hx)
 exact⟨_,rfl,_,_,_,[],_,[],hW',trodAll_mk1 (shut_bool Tryz.underlying4 _),trodAll_mk2 t0 t1,rfl,hb.frame _,λh=>by cases h⟩
theorem jp_maps:mapsRowed Tryz.prog=true:=by kernel_rfl
theorem jp_tie:namedTie Tryz.prog Rows.polygonInsideRow.named Rows.polygonInsideSpec.vars=true:=by kernel_rfl
theorem jp_place:(Rows.polygonInsideRow.inPlace==Tryz.prog.inPlace 4)=true:=by kernel_rfl
theorem jp_unf:(Rows.polygonInsideRow.unfollowed==Tryz.prog.unfollowed 4)=true:=by kernel_rfl
theorem jp_rec:(Rows.polygonInsideRow.recurses==Tryz.prog.recurses 4)=true:=by kernel_rfl
theorem jp_named:(Rows.polygonInsideRow.named==Tryz.prog.varsNamed 4)=true:=by kernel_rfl
theorem jp_heard:Tryz.prog.stopsHeard=true:=by kernel_rfl
theorem jp_enter:Tryz.prog.mayEnter=true:=by kernel_rfl
theorem jp_lifted:(Rows.polygonInsideRow.lifted==Tryz.prog.liftsFinal)=true:=by kernel_rfl
theorem jp_make:(Tryz.prog.make==some Rows.polygonInsideRow.make)=true:=by kernel_rfl
theorem jp_keys:(Rows.polygonInsideRow.plainKeys==Tryz.prog.plainKeys)=true:=by kernel_rfl
theorem jp_func:Tryz.pinned.checked.prog.funcNamed Rows.polygonInsideRow.func=some 4:=by kernel_rfl
theorem jp_all:joinedFacts Tryz.prog 4 Tryz.f4 Rows.polygonInsideSpec Rows.polygonInsideRow=true:=by
 unfold joinedFacts
 simp only[Bool.and_eq_true]
 repeat' apply And.intro
 all_goals first|with_reducible exact zgh|with_reducible exact jp_maps|with_reducible exact jp_tie|with_reducible exact jp_place|with_reducible exact jp_unf|with_reducible exact jp_rec|with_reducible exact jp_named|with_reducible exact jp_heard|with_reducible exact jp_enter|with_reducible exact jp_lifted|with_reducible exact jp_make|with_reducible exact jp_keys|kernel_rfl
theorem zl0:Rows.PolygonInsideSaid:=
 OpenClaim.holds_of_wide 4 Tryz.f4 rfl rfl rfl rfl rfl rfl rfl ⟨rfl,rfl,rfl,rfl,rfl⟩ rfl rfl rfl rfl rfl jp_func Tryz.func4 jp_all
  (of_decide_eq_true (by kernel_rfl)) (by unfold Func.isWrapper;first|(rw[if_pos (by decide+kernel)];kernel_rfl)|(rw[if_neg (by decide+kernel)];exact⟨rfl,rfl⟩))
  (λos started H enc _=>zkd os started H enc)
end Go.Proofs.YtbjomkfgicffhaaGreatDoor
