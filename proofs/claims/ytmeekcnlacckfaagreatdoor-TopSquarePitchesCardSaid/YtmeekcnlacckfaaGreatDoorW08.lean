/- surd.right and Check, of surds with natural roots of up to 20 digits. -/
import Derived.Test.YtmeekcnlacckfaaGreatDoorW07
import Derived.Lib.IndexAny
import Derived.Deep.Quiet
import Derived.Laws.IdiomStrings
import Derived.Deep.Onto
set_option maxRecDepth 100000
set_option maxHeartbeats 8000000
open Go renaming World → zA, Calls → zC
open Go.RowKit renaming Below → zB, intOf → zL
open Go.Lib renaming decDigits → zD, itoa → zE
open Go.Proofs.Tryz renaming prog → zF
open Go.World renaming alloc_heap_new → zG
open Go.IntWalk renaming i64_in → zI
open Go.Joins renaming cell_of_block → zJ, block_setCell → zK
open Go.RowKit.Below renaming refl → zM, heap_setCell → yE
open Nat renaming le_refl → zN, le_trans → zO, zero_le → zR
open List renaming getElem?_eq_getElem → yB
namespace Go.Proofs.YtmeekcnlacckfaaGreatDoor
open Go.RowKit Go.Shelf Lib Str Limb Geo
attribute [local go_sem] Oper.semAt_some
structure NrmR (r:Nat):Prop where
 pos:0<r
 len:(zD r).length<=20
 nc:zn7 r=(1,r)
structure TrmR (c:Rat) (r:Nat):Prop where
 ne:c≠0
 sc:sz c 60
 nr:NrmR r
theorem z8b (c:Rat) (r:Nat) (h:TrmR c r) (w:zA) (hw:Wd w) (hp:Pw w):
 qJ 136 #[.agg #[St (numS c),St (zD r)]] w (.int .i64 0):=by
 have okc:=zd0 (by omega) (by omega) h.sc;have lr:=h.nr.len;have sr:sz (r:Rat) 20:=zrg (by omega) lr;have okr:=zd0 (by omega) (by omega) sr;have dc:=zok (k:=60) (by omega) h.sc;have d1:zD 1=[49]:=by rw[zae (by omega)];rfl
 refine z6v ⟨(numS c).toArray⟩ ⟨(zD r).toArray⟩ _ (max ((zD r).length:Int) (([49]:List UInt8).length:Int)) ?_ ?_ ?_ (hid λW hW=>zfj c okc W hW) (hid λW hW=>?_) (hid λW hW=>znp c okc W hW) (hid λW hW=>?_) (hid ?_) w (hid hw) (hid hp)
 ·rw[ByteArray.toList_eq,beq_eq_false_iff_ne]
  exact λe=>h.ne ((zpy c).1 (by simpa using e))
 ·have:=dc.1;have:=dc.2
  rw[zd9];omega
 ·show ¬(40:Int)<max ((zD r).length:Int) 1
  omega
 ·have:=zfj (r:Rat) okr W hW
  rw[zhe] at this;exact this
 ·have:=znp (r:Rat) okr W hW
  rw[zhe,show(r:Rat).num=(r:Int) from rfl,show(r:Rat).den=1 from rfl,zd9,zd9,d1] at this;exact this
 ·by_cases h1:r=1
  ·left
   rw[h1,ByteArray.toList_eq,d1];rfl
  ·right
   refine⟨zhl (n:=r) rfl 1 (by omega) h1,zhl (n:=r) rfl 0 (by omega) (by have:=h.nr.pos;omega),λW _=>?_,λW _=>?_,λW hW hP=>?_⟩
   ·have:=Tryz.strings_HasPrefix ⟨(zD r).toArray⟩ ⟨#[45]⟩ W
    have e:Lib.hasPrefix (zD r) [45]=false:=by
     have:=zdx (r:Int);rw[Str.zad] at this;rw[this,decide_eq_false (by omega)]
    rw[show(⟨(zD r).toArray⟩:ByteArray).data.toList=zD r from rfl,show(⟨#[45]⟩:ByteArray).data.toList=[45] from rfl,e] at this;refine this.mono ?_;rintro e w' ⟨rfl,rfl⟩;exact⟨rfl,zM _ _⟩
   ·have:=Tryz.strings_Contains_one ⟨(zD r).toArray⟩ 47 W
    have e:decide (0<=Lib.indexByte (zD r) 47)=false:=by
     rw[<-Lib.contains_iff_indexByte];rw[Bool.eq_false_iff];intro k;have hm:=List.contains_iff_mem.1 k;have:=(zan r 47 hm).1;exact absurd this (by decide)
    rw[show(⟨(zD r).toArray⟩:ByteArray).data.toList=zD r from rfl,e] at this;refine this.mono ?_;rintro e w' ⟨rfl,rfl⟩;exact⟨rfl,zM _ _⟩
   ·have:=zz4 r h.nr.pos (by omega) W hW hP
    rw[h.nr.nc,d1] at this;exact this
def z5c (p q:Rat):Bool:=decide (isq (p/q).num.natAbs*isq (p/q).num.natAbs=(p/q).num.natAbs)&&decide (isq (p/q).den*isq (p/q).den=(p/q).den)
structure SurdR (n:Nat) (c:Nat->Rat) (r:Nat->Nat):Prop where
 len:n<=16
 trm:∀i,i<n->TrmR (c i) (r i)
 ord:∀i,i+1<n->r i<r (i+1)
 apt:∀i k,i<k->k<n->z5c (r k:Rat) (r i:Rat)=false
theorem zos (p:Option Addr) (cap n:Nat) (c:Nat->Rat) (r:Nat->Nat) (h:SurdR n c r) (hcap:n<=cap) (w:zA) (hw:Wd w) (hq:Pw w) (hp:RowTm p n (λi=>⟨(numS (c i)).toArray⟩) (λi=>⟨(zD (r i)).toArray⟩) w):
 qJ 70 #[.slice p n cap] w (.int .i64 0):=by
 have sr:∀i,i<n->sz (r i:Rat) 20:=λi hi=>zrg (by omega) (h.trm i hi).nr.len;have up:∀i,i<n->sz (r i:Rat) 90:=λi hi=>(sr i hi).mono (by omega);have pos:∀i,i<n->(0:Rat)<(r i:Rat):=λi hi=>by
  have:=(h.trm i hi).nr.pos;exact_mod_cast this
 refine z2l p cap n _ _ h.len hcap (hid λi hi W hW hP=>z8b _ _ (h.trm i hi) W hW hP) (hid λi hi W hW=>?_) (hid λk A hk W hW hr hA=>?_) w (hid hw) (hid hq) (hid hp)
 ·have:=zgq (r i:Rat) (r (i+1):Rat) 20 20 (by omega) (by omega) (by omega) (sr i (by omega)) (sr (i+1) hi) W hW
  rw[zhe,zhe] at this;have e:cmpR (r i:Rat) (r (i+1):Rat)= -1:=by
   have h1:=h.ord i hi;have h2:(r i:Rat)<(r (i+1):Rat):=by exact_mod_cast h1
   have:=zaw (r i:Rat) (r (i+1):Rat);grind
  rw[e] at this;exact this
 ·refine z7s p cap k A W (hid (z7r p cap k _ _ (by have:=h.len;omega) A (λV=>V.cell? ⟨A,1,none⟩=some (.string ⟨(zD (r k)).toArray⟩)) (λV V' hv hb=>(zac hb).cell hv) (hid λi hi V hV hc=>?_) W (hid hW) (hid hA) (hid λi hi=>hr i (by omega))))
  refine z6w _ _ ⟨#[]⟩ false A _ (hid λU hU=>?_) V (hid hV) (hid hc)
  ·have:=zvz (r k:Rat) (r i:Rat) (Rat.le_of_lt (pos k hk)) (pos i (by omega)) (up k hk) (up i (by omega)) _ _ (zv0 _) (zv0 _) U hU
   have e:=h.apt i k hi hk;unfold z5c at e;rw[e,zhe,zhe] at this;exact this
end Go.Proofs.YtmeekcnlacckfaaGreatDoor
namespace Go.Proofs.YtmeekcnlacckfaaGreatDoor
open Go.RowKit Lib Str Limb
def B6:Nat:=1000000
end Go.Proofs.YtmeekcnlacckfaaGreatDoor
namespace Go.Proofs.YtmeekcnlacckfaaGreatDoor
theorem zzD {B:Nat} {a w:zA} (h:RowKit.Below B a w) (n:Nat):RowKit.Below B a (w.drewN n):=⟨h.os,h.tape,h.output,h.size,h.block⟩
open Go.RowKit Lib Str Limb
end Go.Proofs.YtmeekcnlacckfaaGreatDoor
namespace Go.Proofs.YtmeekcnlacckfaaGreatDoor
open Go.RowKit Lib Str Limb
end Go.Proofs.YtmeekcnlacckfaaGreatDoor
namespace Go.Proofs.YtmeekcnlacckfaaGreatDoor
open Go.RowKit Go.Shelf Lib Str Limb
attribute [local go_sem] Oper.semAt_some
theorem zzE {n:Nat} (h:0<n):∀c r,zD n=c::r->c.toNat≠48:=by
 intro c r e hc;obtain⟨s,hs⟩:=zzX (⟨(zD n++[]).toArray⟩:ByteArray);have hz:=zjz n [] s hs;have c48:c=48:=by apply UInt8.toNat_inj.1;rw[hc];rfl
 rcases hz with h1|h1
 ·rw[e] at h1
  have hr:r=[]:=by cases r with|nil=>rfl|cons _ _=>simp at h1
  have:=zb2 n;rw[e,hr,c48] at this;simp[val] at this;omega
 ·rw[e] at hs
  subst hs;have:=h1 (by simp[ByteArray.size]);exact this (by show c.toNat=48;exact hc)
end Go.Proofs.YtmeekcnlacckfaaGreatDoor
namespace Go.Proofs.YtmeekcnlacckfaaGreatDoor.Limb
end Go.Proofs.YtmeekcnlacckfaaGreatDoor.Limb
namespace Go.Proofs.YtmeekcnlacckfaaGreatDoor
open Go.RowKit Go.Shelf Lib Str Limb
attribute [local go_sem] Oper.semAt_some
theorem infoByte:(Tryz.prog.info? 5).map (λi=>(i.zero,i.size,i.bytes))=some (some (.int .u8 0),1,1):=by kernel_rfl
end Go.Proofs.YtmeekcnlacckfaaGreatDoor
namespace Go.Proofs.YtmeekcnlacckfaaGreatDoor
open Go.RowKit Lib Str Limb
end Go.Proofs.YtmeekcnlacckfaaGreatDoor
namespace Go.Proofs.YtmeekcnlacckfaaGreatDoor
open Go.RowKit Go.Shelf Lib Str Limb
attribute [local go_sem] Oper.semAt_some
theorem put2 {Y:zA} {B:Nat} {t:TypeId} {x0 x1:Value} (h:Y.heap[B]? =some (.cells #[x0,x1] t (0,0))) (y0 y1:Value):((Y.setCell ⟨B,0,none⟩ y0).setCell ⟨B,1,none⟩ y1).heap[B]? =some (.cells #[y0,y1] t (0,0)):=by
 simp[World.setCell,Array.getElem?_modify,h]
def RowSt (p:Option Addr) (l:List (List UInt8)) (W:zA):Prop:=∀i,i<l.length->∃b off,p=some ⟨b,off,none⟩/\W.cell? ⟨b,off+i,none⟩=some (St (l[i]?.getD []))
theorem RowSt.keep {p:Option Addr} {l:List (List UInt8)} {W W':zA} (h:RowSt p l W) (hc:CellsKept W W'):RowSt p l W':=λi hi=>let ⟨b,off,e,h1⟩:=h i hi;⟨b,off,e,hc.cell h1⟩
end Go.Proofs.YtmeekcnlacckfaaGreatDoor
namespace Go.Proofs.YtmeekcnlacckfaaGreatDoor
open Go.RowKit Go.Shelf Lib Str Limb Geo
attribute [local go_sem] Oper.semAt_some
def ze5 (l:List Pt) (q:Pt) (k:Nat):Prop:=
 (cmpR (cor l k).y q.y<=0/\0<cmpR (cor l (k+1)).y q.y/\0<turn (cor l k) (cor l (k+1)) q)\/(cmpR (cor l (k+1)).y q.y<=0/\0<cmpR (cor l k).y q.y/\turn (cor l k) (cor l (k+1)) q<0)
instance (l:List Pt) (q:Pt) (k:Nat):Decidable (ze5 l q k):=by unfold ze5;infer_instance
end Go.Proofs.YtmeekcnlacckfaaGreatDoor
namespace Go.Proofs.YtmeekcnlacckfaaGreatDoor
open Go.RowKit Go.Shelf Lib Str Limb
attribute [local go_sem] Oper.semAt_some
theorem zsc:(Tryz.prog.info? 37).map (λi=>(i.zero,i.size,i.bytes))=some (some (.agg #[St [],St []]),2,32):=by kernel_rfl
theorem zoq (W:zA) (x y:Value) (t:TypeId):∀i u,[x,y][i]? =some u->(W.alloc (.cells #[x,y] t)).cell? ((⟨W.heap.size,0,none⟩:Addr).add i)=some u:=λi u hu=>by
 have A:=zG W (.cells #[x,y] t);have:((⟨W.heap.size,0,none⟩:Addr).add i)=⟨W.heap.size,i,none⟩:=by simp only[Addr.add,Nat.zero_add];split<;>simp_all
 rw[this,zJ A]
 match i,hu with
 |0,hu=>exact hu
 |1,hu=>exact hu
theorem zm4 (x y:List UInt8):∀u∈[St x,St y],u.oneCell'=true:=λu hu=>by
 simp at hu;rcases hu with rfl|rfl<;>rfl
theorem zgy (n:Nat) (W:zA):zC zF 55 #[St (zD n),.string ⟨#[45]⟩] W λe w'=>e=.returned (.bool false)/\w'=W:=by
 have hc:=Tryz.strings_HasPrefix ⟨(zD n).toArray⟩ ⟨#[45]⟩ W;obtain⟨c,r,e,hc1,_⟩:=dec_head n;have hc5:c≠45:=λh=>by subst h;simp at hc1
 have hp:Lib.hasPrefix (zD n) [45]=false:=by rw[e];simp[Lib.hasPrefix,List.isPrefixOf,Ne.symm hc5]
 rw[show(⟨(zD n).toArray⟩:ByteArray).data.toList=zD n from rfl,show(⟨#[45]⟩:ByteArray).data.toList=[45] from rfl,hp] at hc;exact hc
end Go.Proofs.YtmeekcnlacckfaaGreatDoor
namespace Go.Proofs.YtmeekcnlacckfaaGreatDoor
open Go.RowKit Go.Shelf Lib Str Limb Geo
attribute [local go_sem] Oper.semAt_some
theorem zye {w:zA} {base:Nat} {t:TypeId} {s:Nat} {v:Value} {n:Nat} {xs:List Value} (h:w.ownsRow base t s v n xs) (hn:0<n):
 ∃g c,v=.slice (some ⟨g,0,none⟩) n c/\base<=g/\∀i u,xs[i]? =some u->w.cell? ⟨g,i,none⟩=some u:=by
 rcases h.2 with⟨_,e⟩|⟨g,cp,cur,e,hg1,hg2,_,_,hcs,htk⟩
 ·omega
 ·refine⟨g,cp,e,hg1,λi u hu=>?_⟩
  rw[zJ hg2,<-Array.getElem?_toList];rw[<-htk,List.getElem?_take] at hu;split at hu
  ·exact hu
  ·cases hu
end Go.Proofs.YtmeekcnlacckfaaGreatDoor
namespace Go.Proofs.YtmeekcnlacckfaaGreatDoor
open Go.RowKit Go.Shelf Lib Str Limb
attribute [local go_sem] Oper.semAt_some
def zbj:List (List UInt8×List UInt8)->List Value
 |[]=>[]
 |c::l=>St c.1::St c.2::zbj l
theorem zn8:∀l,(zbj l).length=l.length*2
 |[]=>rfl
 |c::l=>by simp[zbj,zn8 l];omega
theorem zjb:∀l r,zbj (l++r)=zbj l++zbj r
 |[],_=>rfl
 |c::l,r=>by simp[zbj,zjb l r]
theorem zpb:∀(l:List (List UInt8×List UInt8)) (i:Nat) (c:List UInt8×List UInt8),l[i]? =some c->(zbj l)[i*2]? =some (St c.1)/\(zbj l)[i*2+1]? =some (St c.2)
 |c::l,0,d,h=>by simp at h;subst h;exact⟨rfl,rfl⟩
 |c::l,i+1,d,h=>by
  have:=zpb l i d (by simpa using h);rw[show(i+1)*2=i*2+1+1 by omega];exact this
structure GatL (gb:Nat) (l:List (List UInt8×List UInt8)) (W:zA):Prop where
 cls:∃v,W.cell? ⟨gb,0,none⟩=some v/\W.ownsRow (gb+1) 97 2 v l.length (zbj l)
 fr:W.frozen? ⟨gb,0,none⟩=false
theorem GatL.keep {gb:Nat} {l:List (List UInt8×List UInt8)} {W W':zA} (h:GatL gb l W) (hc:CellsKept W W'):GatL gb l W':=
 let ⟨v,h1,h2⟩:=h.cls
 ⟨⟨v,hc.cell h1,zcj hc h2⟩,hc.frozen h1 h.fr⟩
def RowCl (p:Option Addr) (l:List (List UInt8×List UInt8)) (W:zA):Prop:=∀i c,l[i]? =some c->∃g,p=some ⟨g,0,none⟩/\W.cell? ⟨g,i*2,none⟩=some (St c.1)/\W.cell? ⟨g,i*2+1,none⟩=some (St c.2)
theorem RowCl.keep {p:Option Addr} {l:List (List UInt8×List UInt8)} {W W':zA} (h:RowCl p l W) (hc:CellsKept W W'):RowCl p l W':=λi c hi=>let ⟨g,e,h1,h2⟩:=h i c hi;⟨g,e,hc.cell h1,hc.cell h2⟩
theorem GatL.row {gb:Nat} {l:List (List UInt8×List UInt8)} {W:zA} (h:GatL gb l W):∃p cap,W.cell? ⟨gb,0,none⟩=some (.slice p l.length cap)/\W.ownsRow (gb+1) 97 2 (.slice p l.length cap) l.length (zbj l)/\RowCl p l W:=by
 obtain⟨v,h1,h2⟩:=h.cls;rcases Nat.eq_zero_or_pos l.length with e|e
 ·rcases h2.2 with⟨rfl,e1⟩|⟨g,cp,cur,rfl,_⟩
  ·refine⟨none,0,by rw[e];exact h1,by rw[e] at h2⊢;exact h2,λi c hi=>?_⟩
   rw[List.length_eq_zero_iff.1 e] at hi;simp at hi
  ·refine⟨_,cp,h1,h2,λi c hi=>?_⟩
   rw[List.length_eq_zero_iff.1 e] at hi;simp at hi
 ·obtain⟨g,c,rfl, -,hx⟩:=zye h2 e
  refine⟨_,c,h1,h2,λi d hi=>⟨g,rfl,?_,?_⟩⟩
  ·exact hx _ _ (zpb l i d hi).1
  ·exact hx _ _ (zpb l i d hi).2
structure AdnS (W:zA) (x xr:List UInt8) (l:List (List UInt8×List UInt8)) (n:Nat) (v0:Value) (gb:Nat) (b:Nat×Value) (f:Nat->Bool) (X:zA):Prop where
 pre:f 11=false->qL W X
 new:f 11=false->f 10=true->X.cell? ⟨b.1,0,none⟩=some (St x)/\X.cell? ⟨b.1,1,none⟩=some (St xr)
 post:f 11=true->∃Y Z,qL W Y/\Y.grownBy Z v0.ownBlock/\Z.ownsRow (gb+1) 97 2 b.2 (n+1) (zbj l++[St x,St xr])/\X=if f 14=true then Z.setCell ⟨gb,0,none⟩ b.2 else Z
theorem AdnS.congr {W:zA} {x xr:List UInt8} {l:List (List UInt8×List UInt8)} {n:Nat} {v0:Value} {gb:Nat} {b:Nat×Value} {f g:Nat->Bool} {X:zA} (h:AdnS W x xr l n v0 gb b f X) (e10:g 10=f 10) (e11:g 11=f 11) (e14:g 14=f 14):AdnS W x xr l n v0 gb b g X:=
 ⟨by rw[e11];exact h.pre,by rw[e10,e11];exact h.new,by rw[e11,e14];exact h.post⟩
theorem zot (gb:Nat) (l:List (List UInt8×List UInt8)) (x xr:List UInt8) (hl:l.length<=5000)
 (R:Hid (∀(i:Nat) (c:List UInt8×List UInt8),l[i]? =some c->∃k,qK 121 #[St xr,St c.2] (.tuple #[.string k,.bool false,.int .i64 0])))
 (w:zA) (HW:Hid (Wd w)) (HG:Hid (GatL gb l w)):
 zC zF 57 #[.pointer (some ⟨gb,0,none⟩),.agg #[St x,St xr]] w λe w'=>e=.returned (.int .i64 0)/\zB gb w w'/\GatL gb (l++[(x,xr)]) w':=by
 obtain⟨i0,hi,hz0,hz1,hz2⟩:=info_parts zx5;obtain⟨p,cap,g0,o0,r0⟩:=HG.out.row;have hlt:=zbe g0;obtain⟨W1,hW1⟩:=zzX (w.alloc (.cells #[St x,St xr] 37));have hb1:qL w W1:=by rw[hW1];exact(zM _ w).alloc (zN _) _
 have A1:W1.heap[w.heap.size]? =some (.cells #[St x,St xr] 37 (0,0)):=by rw[hW1];exact zG w _
 have c0:=zai hb1 g0;rw[hW1] at c0;have HW1:=hid hW1.symm;have HB1:=hid hb1;have HA1:=hid A1;have HR0:=hid r0;have HO:=hid o0;have HG0:=hid g0;obtain⟨n,hn⟩:=zzX l.length;rw[<-hn] at c0 hl HO HG0;have HN:=hid hn;clear hW1 hb1 A1 r0 o0 g0 hn;go_enter Tryz.func57,Tryz.ntmps57;go_wp21;rw[HW1.out];clear c0 HW1;go_loopw [19] (λi wr=>∃(k:Nat),k<=n/\i=.int .i64 (k:Int)/\Hid (qL w wr)/\Hid (wr.heap[w.heap.size]? =some (.cells #[St x,St xr] 37 (0,0))))
  (λi _=>n-(zL i).toNat)
 case atStart=>exact⟨0,zR _,rfl,HB1,HA1⟩
 case round=>
  obtain⟨k,hk,rfl,hB,hT⟩:=hrel;by_cases hlt:k<n
  ·obtain⟨c,hc⟩:∃c,l[k]? =some c:=⟨_,yB (by rw[<-HN.out];exact hlt)⟩
   obtain⟨g,rfl,c0,c1⟩:=(HR0.out.keep (zac hB.out)) k c hc;obtain⟨q,hR⟩:=R.out k c hc;obtain⟨y,yr⟩:=c;have HRT:=hid hR;clear hR hc;simp only at c0 c1 HRT;obtain⟨v1,hv⟩:=zzX (wr.alloc (.cells #[St y,St yr] 97));have a1:qL wr v1:=by rw[hv];exact(zM _ wr).alloc (zN _) _
   have A1:v1.heap[wr.heap.size]? =some (.cells #[St y,St yr] 97 (0,0)):=by rw[hv];exact zG wr _
   have T1:=zac a1 _ _ _ _ hT.out;have k1:v1.cell? ⟨wr.heap.size,1,none⟩=some (St yr):=by rw[zJ A1];rfl
   have t1:v1.cell? ⟨w.heap.size,1,none⟩=some (St xr):=by rw[zJ T1];rfl
   have E1:=hid (hB.out.trans (a1.mono hB.out.size));have HT1:=hid T1;rw[hv] at k1 t1;have HV:=hid hv.symm;clear hv a1 A1 T1;go_wp21;rw[HV.out];clear k1 t1 HV c0 c1;refine zzM (HRT.out v1 (HW.out.below E1.out)) λw2 hb2=>?_;have hB2:=hid (E1.out.trans (hb2.mono E1.out.size));have hT2:=hid (zac hb2 _ _ _ _ HT1.out);clear hb2 HRT E1 HT1;go_wp21;go_roundw
   case rel=>exact⟨k+1,by omega,by go_num,hB2,hT2⟩
   case measure=>simp[zL];omega
  ·have hkn:k=n:=by omega
   go_wp21;have hks:∀w':zA,qL wr w'->w'.cell? ⟨gb,0,none⟩=some (.slice p n cap)/\w'.cell? ⟨w.heap.size,0,none⟩=some (St x)/\w'.cell? ⟨w.heap.size,1,none⟩=some (St xr):=λw' hb=>
    ⟨zai hb (zai hB.out HG0.out),zai hb (by rw[zJ hT.out];rfl),zai hb (by rw[zJ hT.out];rfl)⟩
   have KS:=hid hks;have HF:=hid ((zac hB.out).frozen HG0.out HG.out.fr);have HOw:=hid (zcj (zac hB.out) HO.out);have hgs:gb<w.heap.size:=zbe HG0.out;have hws:=hB.out.size;have hne:some gb≠(Value.slice p n cap).ownBlock:=λe=>by have:=(HO.out.lt _ e.symm).1;omega
   have HNE:=hid hne;clear hks hne HR0 HG R hkn hk hlt HW HB1 HA1;refine zc4 (λ(b:Nat×Value) i=>([.pointer (some ⟨gb,0,none⟩),.pointer (some ⟨gb,0,none⟩),.pointer (some ⟨gb,0,none⟩),.pointer (some ⟨gb,0,none⟩),.slice p n cap,.pointer (some ⟨w.heap.size,0,none⟩),St x,.pointer (some ⟨w.heap.size,1,none⟩),St xr,.agg #[St x,St xr],.slice (some ⟨b.1,0,none⟩) 1 1,b.2,.pointer (some ⟨gb,0,none⟩),.pointer (some ⟨gb,0,none⟩)]:List Value).getD i undef) (AdnS wr x xr l n (.slice p n cap) gb) (by kernel_rfl) (by kernel_rfl) (0,.slice none 0 0) ⟨λ_=>(zM _ wr).drew,λ_ h=>(by cases h),λh=>(by cases h)⟩ λb=>?_;refine qB (.pointer (some ⟨gb,0,none⟩)) (λf W' h=>h.congr rfl rfl rfl) ?_;refine qB (.pointer (some ⟨gb,0,none⟩)) (λf W' h=>h.congr rfl rfl rfl) ?_;refine qB (.pointer (some ⟨gb,0,none⟩)) (λf W' h=>h.congr rfl rfl rfl) ?_;simp only[zzQ];refine qB (.pointer (some ⟨gb,0,none⟩)) (λf W' h=>h.congr rfl rfl rfl) ?_;refine qB (.slice p n cap) (λf W' h=>h.congr rfl rfl rfl) ?_ (hy:=λf W' hf h=>by have g:=KS.out _ (h.pre (hf.no (j:=11) hf.self (by kernel_rfl)));obtain⟨q0,q1,q2⟩:=g;go_simp);refine qB (.pointer (some ⟨w.heap.size,0,none⟩)) (λf W' h=>h.congr rfl rfl rfl) ?_;simp only[zzQ];refine qB (St x) (λf W' h=>h.congr rfl rfl rfl) ?_ (hy:=λf W' hf h=>by have g:=KS.out _ (h.pre (hf.no (j:=11) (hf.no (j:=10) (hf.no (j:=9) hf.self (by kernel_rfl)) (by kernel_rfl)) (by kernel_rfl)));obtain⟨q0,q1,q2⟩:=g;go_simp);refine qB (.pointer (some ⟨w.heap.size,1,none⟩)) (λf W' h=>h.congr rfl rfl rfl) ?_;refine qB (St xr) (λf W' h=>h.congr rfl rfl rfl) ?_ (hy:=λf W' hf h=>by have g:=KS.out _ (h.pre (hf.no (j:=11) (hf.no (j:=10) (hf.no (j:=9) hf.self (by kernel_rfl)) (by kernel_rfl)) (by kernel_rfl)));obtain⟨q0,q1,q2⟩:=g;go_simp);simp only[zzQ];refine qB (.agg #[St x,St xr]) (λf W' h=>h.congr rfl rfl rfl) ?_;simp only[zzQ]
   refine zdc (.slice (some ⟨b.1,0,none⟩) 1 1) (by rfl) (by rfl) (λf W' hf h C' hC'=>by
    have h11:=(hf.no (j:=11) hf.self (by kernel_rfl));have hp:=h.pre h11;have ha:qL W' (W'.alloc (.cells #[St x,St xr] 97)):=(zM _ W').alloc (zN _) _;have A:=zG W' (.cells #[St x,St xr] 97);have:=hC' (W'.heap.size,b.2) (W'.alloc (.cells #[St x,St xr] 97)) (λi hi=>?_) ⟨λ_=>hp.trans (ha.mono hp.size),λ_ _=>⟨by rw[zJ A];rfl,by rw[zJ A];rfl⟩,λk=>(by have k':f 11=true:=k;rw[h11] at k';cases k')⟩
    ·go_simp
     exact this
    ·match i,hi with
     |0,_|1,_|2,_|3,_|4,_|5,_|6,_|7,_|8,_|9,_|11,_|12,_|13,_=>rfl
     |10,hi=>rw[hf.self] at hi;cases hi
     |_+14,_=>rfl) ?_
   try simp only[zzQ]
   refine zdc b.2 (by rfl) (by rfl) (λf W' hf h C' hC'=>by
    have h11:=hf.self;have h14:=(hf.no (j:=14) hf.self (by kernel_rfl));have h10:=hf.done 10 (by kernel_rfl);have hp:=h.pre h11;obtain⟨n0,n1⟩:=h.new h11 h10;refine zmb _ W' _ _ 91 rfl (gb+1) 97 i0 (.agg #[St [],St []]) 2 32 Tryz.underlying91 hi hz0 hz1 hz2 rfl (by decide) (.slice p n cap) n (zbj l) rfl (zcj (zac hp) HOw.out) ⟨b.1,0,none⟩ 1 1 [St x,St xr] rfl rfl (λi u hu=>?_) (λu hu=>?_) (by unfold maxLen;omega) (by omega) (by have:=hp.size;omega) (λv' w' hown' hgrow=>?_)
    ·match i,hu with
     |0,hu=>simp at hu;subst hu;exact n0
     |1,hu=>simp at hu;subst hu;exact n1
     |_+2,hu=>simp at hu
    ·simp at hu;rcases hu with rfl|rfl<;>rfl
    ·refine hC' (b.1,v') w' (λi hi=>?_) ⟨λk=>?_,λk=>?_,λ_=>⟨W',w',hp,hgrow,hown',?_⟩⟩
     ·match i,hi with
      |0,_|1,_|2,_|3,_|4,_|5,_|6,_|7,_|8,_|9,_|10,_|12,_|13,_=>rfl
      |11,hi=>rw[hf.self] at hi;cases hi
      |_+14,_=>rfl
     ·cases k
     ·cases k
     ·show w'=if f 14=true then _ else w'
      rw[h14];rfl) ?_
   refine qB (.pointer (some ⟨gb,0,none⟩)) (λf W' h=>h.congr rfl rfl rfl) ?_;refine qB (.pointer (some ⟨gb,0,none⟩)) (λf W' h=>h.congr rfl rfl rfl) ?_;simp only[zzQ]
   refine zbv undef (by rfl) (by rfl) (λf W' hf h C' hC'=>by
    have h11:=hf.done 11 (by kernel_rfl);have h14:=hf.self;obtain⟨Y,Z,hY,hZ,hz',rfl⟩:=h.post h11;rw[h14,if_neg (by simp)] at*
    have hc0:=(KS.out _ hY).1;have hcell:=hZ.cell hc0 HNE.out;have hfr:Z.frozen? ⟨gb,0,none⟩=false:=by
     rw[World.frozen?_of_block (a:=⟨gb,0,none⟩) (hZ.block _ (zbe hc0) HNE.out)];exact(zac hY).frozen (KS.out _ (zM _ wr)).1 HF.out
    have:=hC' (Z.setCell ⟨gb,0,none⟩ b.2) ⟨λk=>(by have k':f 11=false:=k;rw[h11] at k';cases k'),λk=>(by have k':f 11=false:=k;rw[h11] at k';cases k'),λ_=>⟨Y,Z,hY,hZ,hz',rfl⟩⟩;obtain⟨q,m,c,e2⟩:∃q m c,b.2=.slice q m c:=by
     rcases hz'.2 with⟨e,_⟩|⟨g,cp,cur,e,_⟩<;>exact⟨_,_,_,e⟩
    rw[e2] at this;go_simp;exact this) ?_
   try simp only[Act.put]
   refine ze1 λf X hf h=>?_;obtain⟨Y,Z,hY,hZ,hz',rfl⟩:=h.post (hf 11 (by decide));rw[if_pos (hf 14 (by decide))];have hc0:=(KS.out _ hY).1;have hcell:=hZ.cell hc0 HNE.out;have hfr:Z.frozen? ⟨gb,0,none⟩=false:=by
    rw[World.frozen?_of_block (a:=⟨gb,0,none⟩) (hZ.block _ (zbe hc0) HNE.out)];exact(zac hY).frozen (KS.out _ (zM _ wr)).1 HF.out
   have hbel:zB gb w (Z.setCell ⟨gb,0,none⟩ b.2):=by
    have h1:zB gb w Y:=(hB.out.mono (by omega)).trans (hY.mono (by omega));exact(h1.grown hZ (by have:=hY.size;omega) (λq e=>by have:=(HO.out.lt q e).1;omega)).setCell (by simp) _
   have hgate:GatL gb (l++[(x,xr)]) (Z.setCell ⟨gb,0,none⟩ b.2):=by
    refine⟨⟨b.2,za9 hcell,?_⟩,by rw[World.frozen?_setCell];exact hfr⟩;rw[zjb,List.length_append,<-HN.out];show World.ownsRow _ _ _ _ _ (n+1) (zbj l++[St x,St xr]);exact ownsRow_setCell_below hz' (by simp) _
   have HE:=hid (⟨hbel,hgate⟩:zB gb w (Z.setCell ⟨gb,0,none⟩ b.2)/\GatL gb (l++[(x,xr)]) (Z.setCell ⟨gb,0,none⟩ b.2));clear hbel hgate hcell hfr hY hZ hz' h hf hc0;go_wp21;go_ret;exact⟨rfl,HE.out⟩
theorem z4d:∀(l:List (List UInt8×List UInt8)) (k:Nat) (c:List UInt8×List UInt8),zbj (l.set k c)=((zbj l).set (k*2) (St c.1)).set (k*2+1) (St c.2)
 |[],_,_=>rfl
 |_::_,0,_=>rfl
 |d::l,k+1,c=>by
  rw[show(k+1)*2=k*2+1+1 by omega];simp[zbj,z4d l k c]
theorem z42 {W:zA} {B g n cap:Nat} {e:TypeId} {s:Nat} {xs:List Value} (h:W.ownsRow B e s (.slice (some ⟨g,0,none⟩) n cap) n xs) (i:Nat):W.frozen? ⟨g,i,none⟩=false:=by
 rcases h.2 with⟨e1,_⟩|⟨g',cp,cur,e1,_,hg,_⟩
 ·cases e1
 ·cases e1;exact Go.Joins.unfrozen_of_block hg i
theorem z6l {W:zA} {B g n cap k:Nat} {e:TypeId} {l:List (List UInt8×List UInt8)} {z zr:List UInt8} (h:W.ownsRow B e 2 (.slice (some ⟨g,0,none⟩) n cap) n (zbj l)) (hn:n=l.length) (_:k<n):
 ((W.setCell ⟨g,k*2,none⟩ (St z)).setCell ⟨g,k*2+1,none⟩ (St zr)).ownsRow B e 2 (.slice (some ⟨g,0,none⟩) n cap) n (zbj (l.set k (z,zr))):=by
 refine⟨by rw[zn8,List.length_set,hn],?_⟩;rcases h.2 with⟨e1,_⟩|⟨g',cp,cur,e1,h1,hg,h2,h3,h4,h5⟩
 ·cases e1
 ·cases e1
  refine .inr ⟨g,cap,_,rfl,h1,zK (i:=k*2+1) (zK (i:=k*2) hg (St z)) (St zr),h2,h3,by simpa using h4,?_⟩;rw[z4d,<-h5];simp[List.take_set]
theorem zrp (gb:Nat) (l:List (List UInt8×List UInt8)) (x xr y yr z zr:List UInt8) (kk:ByteArray) (j:Nat) (nn:Int) (o:Bool) (hl:l.length<=5000) (hj:l[j]? =some (y,yr)) (hnn:decide (nn<0)=o)
 (R:Hid (∀(i:Nat) (c:List UInt8×List UInt8),i<j->l[i]? =some c->∃k,qK 121 #[St xr,St c.2] (.tuple #[.string k,.bool false,.int .i64 0])))
 (R1:Hid (qK 121 #[St xr,St yr] (.tuple #[.string kk,.bool true,.int .i64 0])))
 (CM:Hid (qK 27 #[St xr,St yr] (.tuple #[.int .i64 nn,.int .i64 0])))
 (P:Hid (qK 122 #[bif o then .agg #[St x,St xr] else .agg #[St y,St yr],bif o then .agg #[St y,St yr] else .agg #[St x,St xr]] (.tuple #[.agg #[St z,St zr],.int .i64 0])))
 (w:zA) (HW:Hid (Wd w)) (HG:Hid (GatL gb l w)):
 zC zF 57 #[.pointer (some ⟨gb,0,none⟩),.agg #[St x,St xr]] w λe w'=>e=.returned (.int .i64 0)/\zB gb w w'/\GatL gb (l.set j (z,zr)) w':=by
 obtain⟨p,cap,g0,o0,r0⟩:=HG.out.row;have hlt:=zbe g0;obtain⟨W1,hW1⟩:=zzX (w.alloc (.cells #[St x,St xr] 37));have hb1:qL w W1:=by rw[hW1];exact(zM _ w).alloc (zN _) _
 have A1:W1.heap[w.heap.size]? =some (.cells #[St x,St xr] 37 (0,0)):=by rw[hW1];exact zG w _
 have c0:=zai hb1 g0;rw[hW1] at c0;have HW1:=hid hW1.symm;have HB1:=hid hb1;have HA1:=hid A1;have HR0:=hid r0;have HO:=hid o0;have HG0:=hid g0;obtain⟨n,hn⟩:=zzX l.length;have hjn:j<n:=by rw[hn];exact(List.getElem?_eq_some_iff.1 hj).1
 rw[<-hn] at c0 hl HO HG0;have HN:=hid hn;have HJ:=hid hj;clear hW1 hb1 A1 r0 o0 g0 hn hj;go_enter Tryz.func57,Tryz.ntmps57;go_wp21;rw[HW1.out];clear c0 HW1;go_loopw [19] (λi wr=>∃(k:Nat),k<=j/\i=.int .i64 (k:Int)/\Hid (qL w wr)/\Hid (wr.heap[w.heap.size]? =some (.cells #[St x,St xr] 37 (0,0))))
  (λi _=>n-(zL i).toNat)
 case atStart=>exact⟨0,zR _,rfl,HB1,HA1⟩
 case round=>
  obtain⟨k,hk,rfl,hB,hT⟩:=hrel;have hlt:k<n:=by omega
  by_cases hkj:k<j
  ·obtain⟨c,hc⟩:∃c,l[k]? =some c:=⟨_,yB (by rw[<-HN.out];exact hlt)⟩
   obtain⟨g,rfl,c0,c1⟩:=(HR0.out.keep (zac hB.out)) k c hc;obtain⟨q,hR⟩:=R.out k c hkj hc;obtain⟨u,ur⟩:=c;have HRT:=hid hR;clear hR hc;simp only at c0 c1 HRT;obtain⟨v1,hv⟩:=zzX (wr.alloc (.cells #[St u,St ur] 97));have a1:qL wr v1:=by rw[hv];exact(zM _ wr).alloc (zN _) _
   have A1:v1.heap[wr.heap.size]? =some (.cells #[St u,St ur] 97 (0,0)):=by rw[hv];exact zG wr _
   have T1:=zac a1 _ _ _ _ hT.out;have k1:v1.cell? ⟨wr.heap.size,1,none⟩=some (St ur):=by rw[zJ A1];rfl
   have t1:v1.cell? ⟨w.heap.size,1,none⟩=some (St xr):=by rw[zJ T1];rfl
   have E1:=hid (hB.out.trans (a1.mono hB.out.size));have HT1:=hid T1;rw[hv] at k1 t1;have HV:=hid hv.symm;clear hv a1 A1 T1;go_wp21;rw[HV.out];clear k1 t1 HV c0 c1;refine zzM (HRT.out v1 (HW.out.below E1.out)) λw2 hb2=>?_;have hB2:=hid (E1.out.trans (hb2.mono E1.out.size));have hT2:=hid (zac hb2 _ _ _ _ HT1.out);clear hb2 HRT E1 HT1;go_wp21;go_roundw
   case rel=>exact⟨k+1,by omega,by go_num,hB2,hT2⟩
   case measure=>simp[zL];omega
  ·have hkn:k=j:=by omega
   subst hkn;obtain⟨g,rfl,c0,c1⟩:=(HR0.out.keep (zac hB.out)) k (y,yr) HJ.out;simp only at c0 c1;obtain⟨v1,hv⟩:=zzX (wr.alloc (.cells #[St y,St yr] 97));have hvs:wr.heap.size+1=v1.heap.size:=by rw[hv];simp
   have a1:qL wr v1:=by rw[hv];exact(zM _ wr).alloc (zN _) _
   have A1:v1.heap[wr.heap.size]? =some (.cells #[St y,St yr] 97 (0,0)):=by rw[hv];exact zG wr _
   have T1:=zac a1 _ _ _ _ hT.out;have k1:v1.cell? ⟨wr.heap.size,1,none⟩=some (St yr):=by rw[zJ A1];rfl
   have t1:v1.cell? ⟨w.heap.size,1,none⟩=some (St xr):=by rw[zJ T1];rfl
   have E1:=hid (hB.out.trans (a1.mono hB.out.size));have HT1:=hid T1;have HK1:=hid A1;rw[hv] at k1 t1;have HV:=hid hv.symm;clear hv a1 A1 T1;go_wp21;rw[HV.out];clear k1 t1 HV c0 c1;refine zzM (R1.out v1 (HW.out.below E1.out)) λw2 hb2=>?_;have E2:=hid (E1.out.trans (hb2.mono E1.out.size));have HT2:=hid (zac hb2 _ _ _ _ HT1.out);have hlw2:wr.heap.size<w2.heap.size:=Nat.lt_of_lt_of_le (by omega) hb2.size;have HK2:=hid (zac hb2 _ _ _ _ HK1.out);clear hb2 R1 E1 HT1 HK1;have t0:w2.cell? ⟨w.heap.size,0,none⟩=some (St x):=by rw[zJ HT2.out];rfl
   have t1:w2.cell? ⟨w.heap.size,1,none⟩=some (St xr):=by rw[zJ HT2.out];rfl
   obtain⟨w3,hw3⟩:=zzX (w2.alloc (.cells #[St x,St xr] 97));have b3:qL w2 w3:=by rw[hw3];exact(zM _ w2).alloc (zN _) _
   have A3:w3.heap[w2.heap.size]? =some (.cells #[St x,St xr] 97 (0,0)):=by rw[hw3];exact zG w2 _
   have E3:=hid (E2.out.trans (b3.mono E2.out.size));have HK3:=hid (zac b3 _ _ _ _ HK2.out);have p1:w3.cell? ⟨wr.heap.size,1,none⟩=some (St yr):=by rw[zJ HK3.out];rfl
   have p2:w3.cell? ⟨w2.heap.size,1,none⟩=some (St xr):=by rw[zJ A3];rfl
   rw[hw3] at p1 p2;have HA3:=hid A3;have HW3:=hid hw3.symm;clear hw3 b3 A3;go_wp21;rw[HW3.out];clear t0 t1 p1 p2 HW3 E2 HK2 HT2;refine zzM (CM.out w3 (HW.out.below E3.out)) λw4 hb4=>?_;have E4:=hid (E3.out.trans (hb4.mono E3.out.size));have HK4:=hid (zac hb4 _ _ _ _ HK3.out);have HA4:=hid (zac hb4 _ _ _ _ HA3.out);clear hb4 E3 HK3 HA3 CM;have hlow:=hB.out.size;have l0:w4.cell? ⟨wr.heap.size,0,none⟩=some (St y):=by rw[zJ HK4.out];rfl
   have l1:w4.cell? ⟨wr.heap.size,1,none⟩=some (St yr):=by rw[zJ HK4.out];rfl
   have p0:w4.cell? ⟨w2.heap.size,0,none⟩=some (St x):=by rw[zJ HA4.out];rfl
   have p1:w4.cell? ⟨w2.heap.size,1,none⟩=some (St xr):=by rw[zJ HA4.out];rfl
   cases o
   case' true=>
    have hab:wr.heap.size<w2.heap.size:=hlw2;have f0:w4.frozen? ⟨wr.heap.size,0,none⟩=false:=Go.Joins.unfrozen_of_block HK4.out 0;have f1:w4.frozen? ⟨wr.heap.size,1,none⟩=false:=Go.Joins.unfrozen_of_block HK4.out 1;have f2:w4.frozen? ⟨w2.heap.size,0,none⟩=false:=Go.Joins.unfrozen_of_block HA4.out 0;have f3:w4.frozen? ⟨w2.heap.size,1,none⟩=false:=Go.Joins.unfrozen_of_block HA4.out 1;obtain⟨v4,hv4⟩:=zzX ((((w4.setCell ⟨wr.heap.size,0,none⟩ (St x)).setCell ⟨wr.heap.size,1,none⟩ (St xr)).setCell ⟨w2.heap.size,0,none⟩ (St y)).setCell ⟨w2.heap.size,1,none⟩ (St yr));have V1:v4.heap[wr.heap.size]? =some (.cells #[St x,St xr] 97 (0,0)):=by
     rw[hv4,yE _ _ _ _ (by show wr.heap.size≠w2.heap.size;omega),yE _ _ _ _ (by show wr.heap.size≠w2.heap.size;omega)];exact zK (i:=1) (zK (i:=0) HK4.out _) _
    have V2:v4.heap[w2.heap.size]? =some (.cells #[St y,St yr] 97 (0,0)):=by
     have hA:((w4.setCell ⟨wr.heap.size,0,none⟩ (St x)).setCell ⟨wr.heap.size,1,none⟩ (St xr)).heap[w2.heap.size]? =some (.cells #[St x,St xr] 97 (0,0)):=by
      rw[yE _ _ _ _ (by show w2.heap.size≠wr.heap.size;omega),yE _ _ _ _ (by show w2.heap.size≠wr.heap.size;omega)];exact HA4.out
     rw[hv4];exact zK (i:=1) (zK (i:=0) hA _) _
    have VB:qL w v4:=by
     rw[hv4];exact(((E4.out.setCell (by show w.heap.size<=wr.heap.size;omega) _).setCell (by show w.heap.size<=wr.heap.size;omega) _).setCell (by show w.heap.size<=w2.heap.size;omega) _).setCell (by show w.heap.size<=w2.heap.size;omega) _
    have q0:v4.cell? ⟨wr.heap.size,0,none⟩=some (St x):=by rw[zJ V1];rfl
    have q1:v4.cell? ⟨wr.heap.size,1,none⟩=some (St xr):=by rw[zJ V1];rfl
    have q2:v4.cell? ⟨w2.heap.size,0,none⟩=some (St y):=by rw[zJ V2];rfl
    have q3:v4.cell? ⟨w2.heap.size,1,none⟩=some (St yr):=by rw[zJ V2];rfl
    rw[hv4] at q0 q1 q2 q3;have u1:(w4.setCell ⟨wr.heap.size,0,none⟩ (St x)).frozen? ⟨wr.heap.size,1,none⟩=false:=by rw[World.frozen?_setCell];exact f1
    have u2:((w4.setCell ⟨wr.heap.size,0,none⟩ (St x)).setCell ⟨wr.heap.size,1,none⟩ (St xr)).frozen? ⟨w2.heap.size,0,none⟩=false:=by rw[World.frozen?_setCell,World.frozen?_setCell];exact f2
    have u3:(((w4.setCell ⟨wr.heap.size,0,none⟩ (St x)).setCell ⟨wr.heap.size,1,none⟩ (St xr)).setCell ⟨w2.heap.size,0,none⟩ (St y)).frozen? ⟨w2.heap.size,1,none⟩=false:=by rw[World.frozen?_setCell,World.frozen?_setCell,World.frozen?_setCell];exact f3
    have HV4:=hid hv4.symm;have HVB:=hid VB;clear hv4 V1 V2 VB;go_wp21;rw[HV4.out];clear l0 l1 p0 p1 f0 f1 f2 f3 q0 q1 q2 q3 u1 u2 u3 HV4 E4 HK4 HA4
   case' false=>
    have HVB:=E4;clear E4 HK4 HA4 hlow hlw2;go_wp21;clear l0 l1 p0 p1
   all_goals
    refine zzM (P.out _ (HW.out.below HVB.out)) λw5 hb5=>?_;have E5:=qT HVB hb5;clear hb5 HVB P;obtain⟨w6,hw6⟩:=zzX (w5.alloc (.cells #[St z,St zr] 97));have b6:qL w5 w6:=by rw[hw6];exact(zM _ w5).alloc (zN _) _
    have A6:w6.heap[w5.heap.size]? =some (.cells #[St z,St zr] 97 (0,0)):=by rw[hw6];exact zG w5 _
    have hB6:=E5.out.trans (b6.mono E5.out.size);have HW6:=hid hw6.symm;clear hw6 b6;go_wp21;rw[HW6.out];clear HW6;obtain⟨g',e',r0,r1⟩:=(HR0.out.keep (zac hB6)) k (y,yr) HJ.out;obtain rfl:g=g':=by cases e';rfl
    have hgs:gb<w.heap.size:=zbe HG0.out;have m0:w6.drew.cell? ⟨gb,0,none⟩=some (.slice (some ⟨g,0,none⟩) n cap):=zai hB6 HG0.out;have m2:w6.drew.cell? ⟨g,k*2,none⟩=some (St y):=r0;have m3:w6.drew.cell? ⟨g,k*2+1,none⟩=some (St yr):=r1;have o6:w6.drew.ownsRow (gb+1) 97 2 (.slice (some ⟨g,0,none⟩) n cap) n (zbj l):=zcj (zac hB6) HO.out;have hgg:gb<g:=(o6.lt g rfl).1;have m4:w6.drew.frozen? ⟨g,k*2,none⟩=false:=z42 o6 _;have m5:w6.drew.frozen? ⟨g,k*2+1,none⟩=false:=z42 o6 _;have m6:w6.drew.cell? ⟨w5.heap.size,0,none⟩=some (St z):=by rw[zJ (show w6.drew.heap[w5.heap.size]? =_ from A6)];rfl
    have m7:w6.drew.cell? ⟨w5.heap.size,1,none⟩=some (St zr):=by rw[zJ (show w6.drew.heap[w5.heap.size]? =_ from A6)];rfl
    have n2:w6.cell? ⟨g,k*2,none⟩=some (St y):=m2;have n3:w6.cell? ⟨g,k*2+1,none⟩=some (St yr):=m3;have n4:w6.frozen? ⟨g,k*2,none⟩=false:=m4;have n5:w6.frozen? ⟨g,k*2+1,none⟩=false:=m5;have HF:=hid ((zac hB6).frozen HG0.out HG.out.fr);have HO6:=hid o6;have HM0:=hid m0;have HB6:=hid hB6;clear R HR0 HB1 HA1 HG r0 r1 e' o6 hT hB;refine zc4 (λ(_:Unit) i=>([.pointer (some ⟨gb,0,none⟩),.pointer (some ⟨gb,0,none⟩),.pointer (some ⟨gb,0,none⟩),.slice (some ⟨g,0,none⟩) n cap,.int .i64 (k:Int),.agg #[St z,St zr],.pointer (some ⟨g,k*2,none⟩)]:List Value).getD i undef) (λ_ f W'=>(f 7=false->W'=w6.drew)/\(f 7=true->W'=((w6.drew.setCell ⟨g,k*2,none⟩ (St z)).setCell ⟨g,k*2+1,none⟩ (St zr)))) (by kernel_rfl) (by kernel_rfl) () ⟨λ_=>rfl,λh=>(by cases h)⟩ λb=>?_;refine qB (.pointer (some ⟨gb,0,none⟩)) (λf W' h=>⟨h.1,h.2⟩) ?_ (hy:=λf W' hf h=>by
     obtain rfl:=h.1 (hf.no (j:=7) hf.self (by kernel_rfl));go_simp)
    refine qB (.pointer (some ⟨gb,0,none⟩)) (λf W' h=>⟨h.1,h.2⟩) ?_ (hy:=λf W' hf h=>by
     obtain rfl:=h.1 (hf.no (j:=7) hf.self (by kernel_rfl));go_simp)
    refine qB (.pointer (some ⟨gb,0,none⟩)) (λf W' h=>⟨h.1,h.2⟩) ?_ (hy:=λf W' hf h=>by
     obtain rfl:=h.1 (hf.no (j:=7) hf.self (by kernel_rfl));go_simp)
    try simp only[zzQ]
    refine qB (.slice (some ⟨g,0,none⟩) n cap) (λf W' h=>⟨h.1,h.2⟩) ?_ (hy:=λf W' hf h=>by
     obtain rfl:=h.1 (hf.no (j:=7) hf.self (by kernel_rfl));go_simp)
    refine qB (.int .i64 (k:Int)) (λf W' h=>⟨h.1,h.2⟩) ?_ (hy:=λf W' hf h=>by
     obtain rfl:=h.1 (hf.no (j:=7) hf.self (by kernel_rfl));go_simp)
    refine qB (.agg #[St z,St zr]) (λf W' h=>⟨h.1,h.2⟩) ?_ (hy:=λf W' hf h=>by
     obtain rfl:=h.1 (hf.no (j:=7) hf.self (by kernel_rfl));go_simp)
    try simp only[zzQ]
    refine qB (.pointer (some ⟨g,k*2,none⟩)) (λf W' h=>⟨h.1,h.2⟩) ?_ (hy:=λf W' hf h=>by
     obtain rfl:=h.1 (hf.no (j:=7) hf.self (by kernel_rfl));go_simp)
    try simp only[zzQ]
    refine zbv undef (by rfl) (by rfl) (λf W' hf h C' hC'=>by
     obtain rfl:=h.1 hf.self;have:=hC' ((w6.drew.setCell ⟨g,k*2,none⟩ (St z)).setCell ⟨g,k*2+1,none⟩ (St zr)) ⟨λk=>(by cases k),λ_=>rfl⟩;go_simp;exact this) ?_
    try simp only[Act.put]
    refine ze1 λf X hf h=>?_;obtain rfl:=h.2 (hf 7 (by decide));have hbel:zB gb w ((w6.drew.setCell ⟨g,k*2,none⟩ (St z)).setCell ⟨g,k*2+1,none⟩ (St zr)):=
     (((HB6.out.mono (by omega)).drew).setCell (by simp;omega) _).setCell (by simp;omega) _
    have hgate:GatL gb (l.set k (z,zr)) ((w6.drew.setCell ⟨g,k*2,none⟩ (St z)).setCell ⟨g,k*2+1,none⟩ (St zr)):=by
     refine⟨⟨_,by rw[zau _ _ _ _ (by omega),zau _ _ _ _ (by omega)];exact HM0.out,?_⟩,?_⟩
     ·rw[List.length_set,<-HN.out];exact z6l HO6.out HN.out (by omega)
     ·rw[World.frozen?_setCell,World.frozen?_setCell];exact HF.out
    have HE:=hid (⟨hbel,hgate⟩:zB gb w ((w6.drew.setCell ⟨g,k*2,none⟩ (St z)).setCell ⟨g,k*2+1,none⟩ (St zr))/\GatL gb (l.set k (z,zr)) ((w6.drew.setCell ⟨g,k*2,none⟩ (St z)).setCell ⟨g,k*2+1,none⟩ (St zr)));clear hbel hgate m0 m2 m3 m4 m5 m6 m7 n2 n3 n4 n5 h hf;go_wp21;go_ret;exact⟨rfl,HE.out⟩
structure VisC (gb:Nat) (c r:List UInt8) (S S':zA->Prop) (one:Bool) (k n m:List UInt8) (ln:Int):Prop where
 cz:(c==[48])=false
 rz:(r==[48])=false
 n1:(r==[49])=one
 kn:one=true->k=[49]/\n=r
 norm:one=false->∀W:zA,Wd W->Pw W->qJ 120 #[St r] W (.tuple #[St k,St n,.int .i64 0])
 lng:qK 58 #[St n] (.int .i64 ln)
 ln9:decide (90<ln)=false
 mul:qK 11 #[St c,St k] (.tuple #[St m,.int .i64 0])
 keep:∀W W':zA,S W->qL W W'->S W'
 each:∀W:zA,Wd W->S W->zC zF 57 #[.pointer (some ⟨gb,0,none⟩),.agg #[St m,St n]] W λe w'=>e=.returned (.int .i64 0)/\zB gb W w'/\S' w'
theorem z4e (gb:Nat) (p:Option Addr) (cap n:Nat) (X Y:Nat->List UInt8) (S:Nat->zA->Prop) (hn:n<=5000)
 (V:Hid (∀i,i<n->∃one k n m ln,VisC gb (X i) (Y i) (S i) (S (i+1)) one k n m ln))
 (w:zA) (hgb:gb<=w.heap.size) (HW:Hid (∀W,zB gb w W->Wd W)) (HP:Hid (∀W,zB gb w W->Pw W)) (h0:S 0 w)
 (HT:Hid (∀i,i<n->∃b off,p=some ⟨b,off,none⟩/\b<gb/\w.cell? ⟨b,off+i*2,none⟩=some (St (X i))/\w.cell? ⟨b,off+i*2+1,none⟩=some (St (Y i)))):
 zC zF 56 #[.slice p n cap,.func (.func 57) #[.pointer (some ⟨gb,0,none⟩)] #[]] w λe w'=>e=.returned (.int .i64 0)/\zB gb w w'/\S n w':=by
 have D0:=hid (zM gb w);have s0:=hid h0;have g0:=hid hgb;clear h0 hgb;go_enter Tryz.func56,Tryz.ntmps56;go_wp21;go_loopw [13] (λi wr=>∃(k:Nat),k<=n/\i=.int .i64 (k:Int)/\Hid (zB gb w wr)/\Hid (gb<=wr.heap.size)/\Hid (S k wr))
  (λi _=>n-(zL i).toNat)
 case atStart=>exact⟨0,zR _,rfl,D0,g0,s0⟩
 case round=>
  obtain⟨k,hk,rfl,D1,g1,s1⟩:=hrel;by_cases hlt:k<n
  ·obtain⟨b,off,rfl,hb,c0,c1⟩:=HT.out k hlt
   obtain⟨one,kk,nr,m,ln,HV⟩:=V.out k hlt;have R1:=hid HV;generalize X k=x at*
   generalize Y k=y at*
   have cz:=HV.cz;have rz:=HV.rz;have n1:=HV.n1;have ln9:=HV.ln9;have t0:wr.cell? ⟨b,off+k*2,none⟩=some (St x):=by rw[D1.out.cell (p:=⟨b,off+k*2,none⟩) hb];exact c0
   have t1:wr.cell? ⟨b,off+k*2+1,none⟩=some (St y):=by rw[D1.out.cell (p:=⟨b,off+k*2+1,none⟩) hb];exact c1
   obtain⟨v1,hv⟩:=zzX (wr.alloc (.cells #[St x,St y] 37));have a1:qL wr v1:=by rw[hv];exact(zM _ wr).alloc (zN _) _
   have A1:v1.heap[wr.heap.size]? =some (.cells #[St x,St y] 37 (0,0)):=by rw[hv];exact zG wr _
   have k0:v1.cell? ⟨wr.heap.size,0,none⟩=some (St x):=by rw[zJ A1];rfl
   have k1:v1.cell? ⟨wr.heap.size,1,none⟩=some (St y):=by rw[zJ A1];rfl
   have k0':=k0;have k1':=k1;rw[hv] at k0 k1;have HV1:=hid hv.symm;have E1:=hid a1;have B1:=hid A1;clear hv a1 A1 HV c0 c1 hb;go_wp21;rw[HV1.out];clear t0 t1 k0 k1 HV1
   (refine wp_region_quiet_lit (by kernel_rfl) (by kernel_rfl) (WQ.out ?_);(repeat(first|(apply WQ.read (by rfl);(focus(rintro W ⟨n,rfl⟩;go_simp;try with_reducible rfl));try simp only[zzQ])|(apply WQ.skip (by rfl);try simp only[zzQ])));refine WQ.nil ?_;rintro _ ⟨nq,rfl⟩)
   have E2:=hid (zao E1.out nq);have B2:=hid (show(v1.drewN nq).heap[wr.heap.size]? =_ from B1.out);clear E1 B1;cases one
   ·go_wp21
    refine zzM (R1.out.norm rfl _ (HW.out _ (D1.out.trans (E2.out.mono g1.out))) (HP.out _ (D1.out.trans (E2.out.mono g1.out)))) λy1 hb1=>?_;have E3:=hid (E2.out.trans (hb1.mono E2.out.size));have B3:=hid (zac hb1 _ _ _ _ B2.out);clear hb1 E2 B2 k0' k1' cz rz n1;go_wp21;refine zzM (R1.out.lng _ (HW.out _ (D1.out.trans (E3.out.mono g1.out)))) λy2 hb1=>?_;have E4:=hid (E3.out.trans (hb1.mono E3.out.size));have B4:=hid (zac hb1 _ _ _ _ B3.out);clear hb1 E3 B3;have k0:y2.cell? ⟨wr.heap.size,0,none⟩=some (St x):=by rw[zJ B4.out];rfl
    go_wp21;refine zzM (R1.out.mul y2 (HW.out _ (D1.out.trans (E4.out.mono g1.out)))) λy3 hb1=>?_;have E5:=hid (E4.out.trans (hb1.mono E4.out.size));clear hb1 E4 B4 k0;go_wp21;refine(R1.out.each y3 (HW.out _ (D1.out.trans (E5.out.mono g1.out))) (R1.out.keep _ _ s1.out E5.out)).mono ?_;rintro e u1 ⟨rfl,hb1,hs⟩;have D2:=hid ((D1.out.trans (E5.out.mono g1.out)).trans hb1);have g2:Hid (gb<=u1.heap.size):=hid (zO g1.out (zO E5.out.size hb1.size));have s2:=hid hs;clear hb1 hs E5 s1 R1 HT;go_wp21;go_roundw
    case rel=>exact⟨k+1,by omega,by go_num,D2,g2,s2⟩
    case measure=>simp[zL];omega
   ·obtain⟨rfl,rfl⟩:=R1.out.kn rfl
    have E3:=E2;have B3:=B2;clear E2 B2;go_wp21;clear k0' k1' cz rz n1;refine zzM (R1.out.lng _ (HW.out _ (D1.out.trans (E3.out.mono g1.out)))) λy2 hb1=>?_;have E4:=hid (E3.out.trans (hb1.mono E3.out.size));have B4:=hid (zac hb1 _ _ _ _ B3.out);clear hb1 E3 B3;have k0:y2.cell? ⟨wr.heap.size,0,none⟩=some (St x):=by rw[zJ B4.out];rfl
    go_wp21;refine zzM (R1.out.mul y2 (HW.out _ (D1.out.trans (E4.out.mono g1.out)))) λy3 hb1=>?_;have E5:=hid (E4.out.trans (hb1.mono E4.out.size));clear hb1 E4 B4 k0;go_wp21;refine(R1.out.each y3 (HW.out _ (D1.out.trans (E5.out.mono g1.out))) (R1.out.keep _ _ s1.out E5.out)).mono ?_;rintro e u1 ⟨rfl,hb1,hs⟩;have D2:=hid ((D1.out.trans (E5.out.mono g1.out)).trans hb1);have g2:Hid (gb<=u1.heap.size):=hid (zO g1.out (zO E5.out.size hb1.size));have s2:=hid hs;clear hb1 hs E5 s1 R1 HT;go_wp21;go_roundw
    case rel=>exact⟨k+1,by omega,by go_num,D2,g2,s2⟩
    case measure=>simp[zL];omega
  ·have hkn:k=n:=by omega
   subst hkn;go_wp21;go_ret;exact⟨rfl,D1.out,s1.out⟩
def zin (l:List (List UInt8×List UInt8)):List (List UInt8×List UInt8):=l.filter λc=>!(c.1==[48])
def ziq (l:List (List UInt8×List UInt8)) (k:Nat):List (List UInt8×List UInt8):=zin (l.take k)
theorem z7n (l:List (List UInt8×List UInt8)):ziq l l.length=zin l:=by simp[ziq]
theorem z6s {l:List (List UInt8×List UInt8)} {k:Nat} {c:List UInt8×List UInt8} (h:l[k]? =some c):ziq l (k+1)=ziq l k++(if(c.1==[48])=true then[] else[c]):=by
 unfold ziq zin;rw[List.take_add_one,h,List.filter_append];cases hc:(c.1==[48])<;>simp[hc]
theorem z8a (l:List (List UInt8×List UInt8)) (k:Nat):(ziq l k).length<=l.length:=by
 have h1:=List.length_filter_le (λc:List UInt8×List UInt8=>!(c.1==[48])) (l.take k);have h2:(l.take k).length<=l.length:=by simp;omega
 unfold ziq zin;omega
theorem zl0 (p:Option Addr) (cap n:Nat) (X Y:Nat->List UInt8) (L M:List (List UInt8×List UInt8)) (j0:Nat) (hn:n<=256) (hm:L.length<=5000)
 (CK:Hid (∀i,i<n->qK 54 #[St (X i)] (.int .i64 0)))
 (RK:Hid (∀i,i<n->qK 54 #[St (Y i)] (.int .i64 0)))
 (PF:Hid (∀i,i<n->∀W:zA,zC zF 55 #[St (Y i),.string ⟨#[45]⟩] W λe w'=>e=.returned (.bool false)/\w'=W))
 (w:zA) (HW:Hid (∀W,qL w W->Wd W))
 (HT:Hid (∀i,i<n->∃b off,p=some ⟨b,off,none⟩/\b<w.heap.size/\w.cell? ⟨b,off+i*2,none⟩=some (St (X i))/\w.cell? ⟨b,off+i*2+1,none⟩=some (St (Y i))))
 (VIS:Hid (∀u vg:zA,qL w u->qL u vg->vg.heap.size=u.heap.size+1->GatL u.heap.size [] vg->zC zF 56 #[.slice p n cap,.func (.func 57) #[.pointer (some ⟨u.heap.size,0,none⟩)] #[]] vg λe w'=>e=.returned (.int .i64 0)/\zB u.heap.size vg w'/\GatL u.heap.size L w'))
 (LG:Hid (∀(i:Nat) (c:List UInt8×List UInt8),i<j0->L[i]? =some c->(c.1==[48])=false->∃a b:Int,(qK 58 #[St c.1] (.int .i64 a))/\(qK 58 #[St c.2] (.int .i64 b))/\decide (60<a)=false/\decide (40<b)=false))
 (END:Hid ((j0=L.length/\(zin L).length<=16/\∀(B:Nat) (W:zA) (q:Option Addr) (c:Nat),qL w W->w.heap.size<=B->B<=W.heap.size->W.ownsRow B 37 2 (.slice q (zin L).length c) (zin L).length (zbj (zin L))->zC zF 59 #[.slice q (zin L).length c,.func (.func 60) #[] #[]] W λe w'=>(∃u,e=.returned u)/\zB B W w'/\w'.ownsRow B 37 2 (.slice q (zin L).length c) (zin L).length (zbj M))\/∃(bx br:List UInt8) (a0:Int),L[j0]? =some (bx,br)/\(bx==[48])=false/\decide (60<a0)=true/\qK 58 #[St bx] (.int .i64 a0))):
 zC zF 13 #[.slice p n cap] w λe w'=>∃q m c r,e=.returned (.tuple #[.slice q m c,.int .i64 r])/\zB w.heap.size w w'/\((r=0/\j0=L.length/\m=(zin L).length/\w'.ownsRow w.heap.size 37 2 (.slice q m c) m (zbj M))\/(r=4/\j0<L.length/\q=none/\m=0/\c=0)):=by
 obtain⟨i0,hi,hz0,hz1,hz2⟩:=info_parts zsc;have D0:=hid (zM w.heap.size w);go_enter Tryz.func13,Tryz.ntmps13;go_wp21;go_loopw [18] (λi wr=>∃(k:Nat),k<=n/\i=.int .i64 (k:Int)/\Hid (qL w wr))
  (λi _=>n-(zL i).toNat)
 case atStart=>exact⟨0,zR _,rfl,D0⟩
 case round=>
  obtain⟨k,hk,rfl,D1⟩:=hrel;by_cases hlt:k<n
  ·obtain⟨b,off,rfl,hb,c0,c1⟩:=HT.out k hlt
   have C1:=hid (CK.out k hlt);have C2:=hid (RK.out k hlt);have C3:=hid (PF.out k hlt);generalize X k=x at*
   generalize Y k=y at*
   have t0:wr.cell? ⟨b,off+k*2,none⟩=some (St x):=by rw[D1.out.cell (p:=⟨b,off+k*2,none⟩) hb];exact c0
   have t1:wr.cell? ⟨b,off+k*2+1,none⟩=some (St y):=by rw[D1.out.cell (p:=⟨b,off+k*2+1,none⟩) hb];exact c1
   obtain⟨v1,hv⟩:=zzX (wr.alloc (.cells #[St x,St y] 37));have a1:qL wr v1:=by rw[hv];exact(zM _ wr).alloc (zN _) _
   have A1:v1.heap[wr.heap.size]? =some (.cells #[St x,St y] 37 (0,0)):=by rw[hv];exact zG wr _
   have k0:v1.cell? ⟨wr.heap.size,0,none⟩=some (St x):=by rw[zJ A1];rfl
   rw[hv] at k0;have HV1:=hid hv.symm;have E1:=hid (D1.out.trans (a1.mono D1.out.size));have B1:=hid A1;clear hv a1 A1 c0 c1 hb;go_wp21;rw[HV1.out];clear t0 t1 k0 HV1;refine zzM (C1.out v1 (HW.out _ E1.out)) λy1 hb1=>?_;have E2:=hid (E1.out.trans (hb1.mono E1.out.size));have B2:=hid (zac hb1 _ _ _ _ B1.out);clear hb1 E1 B1;have k1:y1.cell? ⟨wr.heap.size,1,none⟩=some (St y):=by rw[zJ B2.out];rfl
   go_wp21;refine zzM (C2.out y1 (HW.out _ E2.out)) λy2 hb1=>?_;have E3:=hid (E2.out.trans (hb1.mono E2.out.size));have B3:=hid (zac hb1 _ _ _ _ B2.out);clear hb1 k1 E2 B2;have k1:y2.cell? ⟨wr.heap.size,1,none⟩=some (St y):=by rw[zJ B3.out];rfl
   go_wp21;refine zzM (C3.out y2) λu1 hw1=>?_;have D2:Hid (qL w u1):=hid (by rw[hw1];exact E3.out);clear hw1 k1 E3 B3;go_wp21;go_roundw
   case rel=>exact⟨k+1,by omega,by go_num,D2⟩
   case measure=>simp[zL];omega
  ·have hkn:k=n:=by omega
   subst hkn;go_wp21;have N0:qL wr (wr.alloc (.cells #[.slice none 0 0] 93)):=(zM _ wr).alloc (zN _) _;have NA:=zG wr (.cells #[.slice none 0 0] 93);have NZ:(wr.alloc (.cells #[.slice none 0 0] 93)).heap.size=wr.heap.size+1:=by simp
   generalize wr.alloc (.cells #[.slice none 0 0] 93)=vg at*
   have HV:=hid (VIS.out wr vg D1.out N0 NZ ⟨⟨_,by rw[zJ NA];rfl,World.ownsRow_nil _ _ _ _⟩,by rw[Go.Joins.unfrozen_of_block NA]⟩);have HN0:=hid N0;clear NA NZ N0 VIS HT CK RK PF;refine HV.out.mono ?_;rintro e z ⟨rfl,hz,hg⟩;have DZ:Hid (qL w z):=hid (D1.out.trans ((HN0.out.trans hz).mono D1.out.size));obtain⟨pc,cc,g0, -,r0⟩:=hg.row;have HR:=hid r0;obtain⟨m,hmm⟩:=zzX L.length;have hjm:j0<=m:=by
    rcases END.out with⟨h,_⟩|⟨_,_,_,h,_⟩
    ·omega
    ·have:=(List.getElem?_eq_some_iff.1 h).1;omega
   rw[<-hmm] at g0 hm;have HM:=hid hmm;have Z0:=hid (zM z.heap.size z);have ZO:=hid (show z.ownsRow z.heap.size 37 2 (.slice none 0 0) (ziq L 0).length (zbj (ziq L 0)) from World.ownsRow_nil _ _ _ _);clear hmm r0 hg hz HV;go_wp21;clear g0;go_loopw [10,47] (λv i wr=>∃(k:Nat) (q:Option Addr) (c:Nat),k<=j0/\i=.int .i64 (k:Int)/\v=.slice q (ziq L k).length c/\Hid (qL z wr)/\Hid (wr.ownsRow z.heap.size 37 2 (.slice q (ziq L k).length c) (ziq L k).length (zbj (ziq L k))))
    (λ_ i _=>m-(zL i).toNat)
   case atStart=>exact⟨0,none,0,zR _,rfl,rfl,Z0,ZO⟩
   case round=>
    obtain⟨k,q,c,hk,rfl,rfl,E0,O0⟩:=hrel;by_cases hlt:k<j0
    ·have hkm0:k<m:=by omega
     obtain⟨d,hd⟩:∃d,L[k]? =some d:=⟨_,yB (by rw[<-HM.out];exact hkm0)⟩;obtain⟨g,rfl,c0,c1⟩:=(HR.out.keep (zac E0.out)) k d hd;have hks:=z6s hd;have hkl:=z8a L k;rw[<-HM.out] at hkl;have hL:=λh=>LG.out k d hlt hd h;obtain⟨x,y⟩:=d;simp only at c0 c1 hks hL;obtain⟨v1,hv⟩:=zzX (wr.alloc (.cells #[St x,St y] 97));have a1:qL wr v1:=by rw[hv];exact(zM _ wr).alloc (zN _) _
     have A1:v1.heap[wr.heap.size]? =some (.cells #[St x,St y] 97 (0,0)):=by rw[hv];exact zG wr _
     have k0:v1.cell? ⟨wr.heap.size,0,none⟩=some (St x):=by rw[zJ A1];rfl
     rw[hv] at k0;have HV1:=hid hv.symm;have E1:=hid (E0.out.trans (a1.mono E0.out.size));have B1:=hid A1;have O1:=hid (zcj (zac a1) O0.out);have HK:=hid hks;have HL:=hid hL;clear hv a1 A1 O0 hd hks hL;cases hx:(x==[48])
     ·obtain⟨a,b,La,Lb,la,lb⟩:=HL.out hx
      have HLa:=hid La;have HLb:=hid Lb;clear La Lb;go_wp21;rw[HV1.out];clear c0 c1 k0 HV1;refine zzM (HLa.out v1 (HW.out _ (DZ.out.trans (E1.out.mono DZ.out.size)))) λy1 hb1=>?_;have E2:=hid (E1.out.trans (hb1.mono E1.out.size));have B2:=hid (zac hb1 _ _ _ _ B1.out);have O2:=hid (zcj (zac hb1) O1.out);clear hb1 E1 B1 O1;have k1:y1.cell? ⟨wr.heap.size,1,none⟩=some (St y):=by rw[zJ B2.out];rfl
      go_wp21;refine zzM (HLb.out y1 (HW.out _ (DZ.out.trans (E2.out.mono DZ.out.size)))) λy2 hb1=>?_;have E3:=hid (E2.out.trans (hb1.mono E2.out.size));have B3:=hid (zac hb1 _ _ _ _ B2.out);have O3:=hid (zcj (zac hb1) O2.out);clear hb1 k1 E2 B2 O2;have k0:y2.cell? ⟨wr.heap.size,0,none⟩=some (St x):=by rw[zJ B3.out];rfl
      have k1:y2.cell? ⟨wr.heap.size,1,none⟩=some (St y):=by rw[zJ B3.out];rfl
      go_wp2_with (at_builtin;refine wpList_append_own _ rfl _ _ 26 rfl z.heap.size 37 i0 (.agg #[St [],St []]) 2 32 Tryz.underlying26 hi hz0 hz1 hz2 rfl (by decide) _ _ _ rfl (O3.out.alloc _) ⟨y2.heap.size,0,none⟩ 1 1 [St x,St y] rfl rfl (zoq _ _ _ _) (zm4 _ _) (by unfold maxLen;omega) (by omega) (by have:=E3.out.size;simp;omega) (λv' w' hown' hgrow _=>?_));obtain⟨g',c',rfl, -, -⟩:=zye hown' (by omega);have F1:Hid (qL z w'):=hid ((E3.out.alloc E3.out.size _).grown hgrow (by have:=E3.out.size;simp;omega) (λq e=>(O3.out.lt q e).1));have he:ziq L (k+1)=ziq L k++[(x,y)]:=by rw[HK.out,hx];rfl
      have hel:(ziq L (k+1)).length=(ziq L k).length+1:=by rw[he];simp
      have G1:Hid (w'.ownsRow z.heap.size 37 2 (.slice (some ⟨g',0,none⟩) (ziq L (k+1)).length c') (ziq L (k+1)).length (zbj (ziq L (k+1)))):=hid (by rw[hel,he,zjb];exact hown');have HE:=hid hel;clear hgrow hown' k0 k1 E3 O3 B3 he hel HK HL;go_roundw
      case rel=>exact⟨k+1,some ⟨g',0,none⟩,c',by omega,by go_num,by rw[HE.out],F1,G1⟩
      case measure=>simp[zL];omega
     ·have he:ziq L (k+1)=ziq L k:=by rw[HK.out,hx];simp
      have HE:=hid he;clear he HK HL;go_wp21;rw[HV1.out];clear c0 c1 k0 HV1;go_roundw
      case rel=>exact⟨k+1,q,c,by omega,by go_num,by rw[HE.out],E1,by rw[HE.out];exact O1⟩
      case measure=>simp[zL];omega
    ·have hkm:k=j0:=by omega
     subst hkm;clear LG;rcases END.out with⟨hjl,ho,hS⟩|⟨bx,br,a0,hj,hb0,ha0,hLB⟩
     ·have HX:=hid hjl
      have hkm:k=m:=by rw[HM.out];exact hjl
      subst hkm;clear END hjl hjm hlt;have he:ziq L k=zin L:=by rw[HX.out,z7n]
      rw[he] at O0⊢;have DE:=hid (DZ.out.trans (E0.out.mono DZ.out.size));have hs:=hS z.heap.size wr q c DE.out DZ.out.size E0.out.size O0.out;have HS:=hid hs;clear hs he hS;go_wp21;refine HS.out.mono ?_;rintro e y5 ⟨⟨u,rfl⟩,h1,h2⟩;have FE:=hid (⟨DE.out.trans (h1.mono DZ.out.size),h2.mono DZ.out.size⟩:qL w y5/\y5.ownsRow w.heap.size 37 2 (.slice q (zin L).length c) (zin L).length (zbj M));clear h1 h2;go_wp21;go_ret2;exact⟨q,_,c,0,rfl,FE.out.1,.inl ⟨rfl,HX.out,rfl,FE.out.2⟩⟩
     ·have hkm0:k<m:=by have:=(List.getElem?_eq_some_iff.1 hj).1;rw[HM.out];exact this
      have HKM:=hid (show k<L.length by rw[<-HM.out];exact hkm0);have HJ:=hid hj;have HB0:=hid hb0;have HA0:=hid ha0;have LB:=hid hLB;clear END hj hb0 ha0 hLB hlt;obtain⟨g,rfl,c0,c1⟩:=(HR.out.keep (zac E0.out)) k (bx,br) HJ.out;simp only at c0 c1;have hx:=HB0.out;obtain⟨v1,hv⟩:=zzX (wr.alloc (.cells #[St bx,St br] 97));have a1:qL wr v1:=by rw[hv];exact(zM _ wr).alloc (zN _) _
      have A1:v1.heap[wr.heap.size]? =some (.cells #[St bx,St br] 97 (0,0)):=by rw[hv];exact zG wr _
      have k0:v1.cell? ⟨wr.heap.size,0,none⟩=some (St bx):=by rw[zJ A1];rfl
      rw[hv] at k0;have HV1:=hid hv.symm;have E1:=hid (E0.out.trans (a1.mono E0.out.size));clear hv a1 A1 O0;go_wp21;rw[HV1.out];clear c0 c1 k0 HV1;refine zzM (LB.out v1 (HW.out _ (DZ.out.trans (E1.out.mono DZ.out.size)))) λy1 hb1=>?_;have E2:=hid (DZ.out.trans ((E1.out.trans (hb1.mono E1.out.size)).mono DZ.out.size));have hai:60<a0:=by first|exact of_decide_eq_true HA0.out|exact HA0.out
      have ha:decide (60<a0)=true:=decide_eq_true hai;clear hb1 E1;go_wp21;go_ret2;exact⟨none,0,0,4,rfl,E2.out,.inr ⟨rfl,HKM.out,rfl,rfl,rfl⟩⟩
theorem z6g (v1 v2:Value) (C:zA->Prop) (hC:∀W W',C W->qL W W'->C W')
 (K1:Hid (∀W:zA,C W->qJ 70 #[v1] W (.int .i64 0)))
 (K2:Hid (∀W:zA,C W->qJ 70 #[v2] W (.int .i64 0)))
 (w:zA) (h:C w):
 qJ 71 #[v1,v2] w (.bool true):=by
 have HC:=hid hC;have H:=hid h;clear hC h;go_enter Tryz.func71,Tryz.ntmps71;go_wp21;refine zzM (K1.out w H.out) λw1 hb1=>?_;have B1:=hid hb1;clear hb1;go_wp21;refine zzM (K2.out w1 (HC.out _ _ H.out B1.out)) λw2 hb2=>?_;have B2:=hid (B1.out.trans (hb2.mono B1.out.size));clear hb2;go_wp21;go_ret;exact⟨rfl,B2.out⟩
end Go.Proofs.YtmeekcnlacckfaaGreatDoor
namespace Go.Proofs.YtmeekcnlacckfaaGreatDoor
open Go.RowKit Go.Shelf Lib Str Limb
end Go.Proofs.YtmeekcnlacckfaaGreatDoor
namespace Go.Proofs.YtmeekcnlacckfaaGreatDoor
open Go.RowKit Go.Shelf Lib Str Limb
attribute [local go_sem] Oper.semAt_some
structure PlsS (w:zA) (x xr y yr:List UInt8) (W:zA):Prop where
 bel:qL w W
 h0:W.heap[w.heap.size]? =some (.cells #[St x,St xr] 97 (0,0))
 h1:W.heap[w.heap.size+1]? =some (.cells #[St y,St yr] 97 (0,0))
 h2:W.heap[w.heap.size+1+1]? =some (.cells #[St [],St []] 97 (0,0))
theorem PlsS.next {w:zA} {x xr y yr:List UInt8} {W W':zA} (h:PlsS w x xr y yr W) (hb:qL W W'):PlsS w x xr y yr W':=
 have hc:=zac hb
 ⟨h.bel.trans (hb.mono h.bel.size),hc _ _ _ _ h.h0,hc _ _ _ _ h.h1,hc _ _ _ _ h.h2⟩
theorem PlsS.cells {w:zA} {x xr y yr:List UInt8} {W:zA} (h:PlsS w x xr y yr W):
 W.cell? ⟨w.heap.size,0,none⟩=some (St x)/\W.cell? ⟨w.heap.size,1,none⟩=some (St xr)/\W.cell? ⟨w.heap.size+1,0,none⟩=some (St y)/\W.cell? ⟨w.heap.size+1,1,none⟩=some (St yr)/\
 W.cell? ⟨w.heap.size+1+1,0,none⟩=some (St [])/\W.cell? ⟨w.heap.size+1+1,1,none⟩=some (St [])/\W.frozen? ⟨w.heap.size+1+1,0,none⟩=false/\W.frozen? ⟨w.heap.size+1+1,1,none⟩=false:=by
 refine⟨?_,?_,?_,?_,?_,?_,Go.Joins.unfrozen_of_block h.h2 0,Go.Joins.unfrozen_of_block h.h2 1⟩
 ·rw[zJ h.h0];rfl
 ·rw[zJ h.h0];rfl
 ·rw[zJ h.h1];rfl
 ·rw[zJ h.h1];rfl
 ·rw[zJ h.h2];rfl
 ·rw[zJ h.h2];rfl
theorem PlsS.start (w:zA) (x xr y yr:List UInt8):PlsS w x xr y yr (((w.alloc (.cells #[St x,St xr] 97)).alloc (.cells #[St y,St yr] 97)).alloc (.cells #[St [],St []] 97)):=by
 refine⟨(((zM _ w).alloc (zN _) _).alloc (by simp) _).alloc (by simp;omega) _,?_,?_,?_⟩
 ·exact(Below.heap_alloc _ _ _ (by simp;omega)).trans ((Below.heap_alloc _ _ _ (by simp)).trans (zG w _))
 ·have:=zG (w.alloc (.cells #[St x,St xr] 97)) (.cells #[St y,St yr] 97)
  rw[World.size_alloc] at this;exact(Below.heap_alloc _ _ _ (by simp)).trans this
 ·have:=zG ((w.alloc (.cells #[St x,St xr] 97)).alloc (.cells #[St y,St yr] 97)) (.cells #[St [],St []] 97)
  simp only[World.size_alloc] at this;exact this
theorem zvt (x xr y yr k m z:List UInt8) (is:Bool)
 (R:Hid (qK 121 #[St yr,St xr] (.tuple #[St k,.bool is,.int .i64 0])))
 (M:Hid (qK 11 #[St y,St k] (.tuple #[St m,.int .i64 0])))
 (A:Hid (qK 12 #[St x,St m] (.tuple #[St z,.int .i64 0])))
 (w:zA) (HW:Hid (Wd w)):
 qJ 122 #[.agg #[St x,St xr],.agg #[St y,St yr]] w (.tuple #[.agg #[St z,St xr],.int .i64 0]):=by
 have hS:=PlsS.start w x xr y yr;obtain⟨c0,c1,c2,c3,c4,c5,f0,f1⟩:=hS.cells;obtain⟨W1,hW1⟩:=zzX (((w.alloc (.cells #[St x,St xr] 97)).alloc (.cells #[St y,St yr] 97)).alloc (.cells #[St [],St []] 97));rw[<-hW1] at hS;have HS:=hid hS;have HW1:=hid hW1;clear hS hW1;go_enter Tryz.func122,Tryz.ntmps122;go_wp21;have h9:=HW1.out;rw[<-h9];clear h9 c0 c1 c2 c3 c4 c5 f0 f1;refine zzM (R.out W1 (HW.out.below HS.out.bel)) λw2 hb2=>?_;have H2:=hid (HS.out.next hb2);clear hb2 HS HW1;obtain⟨c0,c1,c2,c3,c4,c5,f0,f1⟩:=H2.out.cells;go_wp21;refine zzM (M.out w2 (HW.out.below H2.out.bel)) λw3 hb3=>?_;have H3:=hid (H2.out.next hb3);clear hb3 H2 c0 c1 c2 c3 c4 c5 f0 f1;obtain⟨c0,c1,c2,c3,c4,c5,f0,f1⟩:=H3.out.cells;go_wp21;refine zzM (A.out w3 (HW.out.below H3.out.bel)) λw4 hb4=>?_;have H4:=hid (H3.out.next hb4);clear hb4 H3 c0 c1 c2 c3 c4 c5 f0 f1;obtain⟨c0,c1,c2,c3,c4,c5,f0,f1⟩:=H4.out.cells;have hB4:=H4.out.bel;go_wp21;refine bodyPost_ret (v:=.tuple #[.agg #[St z,St xr],.int .i64 0]) (by simp[results,Tryz.results122,go_sem,c4,c5]) rfl ⟨rfl,?_⟩
 repeat(first|exact hB4|refine Below.setCell ?_ (by simp;omega) _)
theorem yab (g c:Nat) (x:List UInt8) (w:zA) (c0:w.cell? ⟨g,0,none⟩=some (St x)) (c1:w.cell? ⟨g,1,none⟩=some (.string ⟨#[49]⟩))
 (K:Hid (qJ 70 #[.slice (some ⟨g,0,none⟩) 1 c] w (.int .i64 0))):
 qJ 68 #[.slice (some ⟨g,0,none⟩) 1 c] w (.tuple #[St x,.bool true,.int .i64 0]):=by
 go_enter Tryz.func68,Tryz.ntmps68;go_wp21;refine zzM K.out λw1 hb1=>?_;have B1:=hid hb1;have d0:=zai hb1 c0;have d1:=zai hb1 c1;clear hb1 c0 c1;go_wp21;go_ret3;exact⟨rfl,B1.out⟩
theorem nm0:numS 0=[48]:=by have:=zha 0;rw[show((0:Int):Rat)=0 from rfl] at this;rw[this];decide+kernel
theorem nm_1:numS (-1)=[45,49]:=by have:=zha (-1);rw[show((-1:Int):Rat)= -1 from rfl] at this;rw[this];decide+kernel
theorem zb7:sz 0 1/\sz 1 1/\sz 2 1/\sz 4 1/\sz (-1) 1/\sz (-2) 1:=⟨⟨by decide,by decide⟩,⟨by decide,by decide⟩,⟨by decide,by decide⟩,⟨by decide,by decide⟩,⟨by decide,by decide⟩,⟨by decide,by decide⟩⟩
theorem zm5 {q:Rat} (h:sz q 1):okQ q:=zd0 (by omega) (by omega) h
def scK (C Y:Nat->List UInt8):Nat->List (List UInt8×List UInt8)
 |0=>[]
 |k+1=>scK C Y k++[(C k,Y k)]
theorem z6y (p:Option Addr) (cap n:Nat) (X Y C:Nat->List UInt8) (c:List UInt8) (hn:n<=256)
 (w:zA) (HW:Hid (∀W,qL w W->Wd W))
 (M:Hid (∀i,i<n->qK 11 #[St (X i),St c] (.tuple #[St (C i),.int .i64 0])))
 (T:Hid (∀i,i<n->∃b off,p=some ⟨b,off,none⟩/\b<w.heap.size/\w.cell? ⟨b,off+i*2,none⟩=some (St (X i))/\w.cell? ⟨b,off+i*2+1,none⟩=some (St (Y i)))):
 zC zF 73 #[.slice p n cap,St c] w λe w'=>∃q d,e=.returned (.tuple #[.slice q n d,.int .i64 0])/\zB w.heap.size w w'/\w'.ownsRow w.heap.size 37 2 (.slice q n d) n (zbj (scK C Y n)):=by
 obtain⟨i0,hi,hz0,hz1,hz2⟩:=info_parts zsc;have D0:=hid (zM w.heap.size w);have O0:=hid (show w.ownsRow w.heap.size 37 2 (.slice none 0 0) 0 (zbj (scK C Y 0)) from World.ownsRow_nil _ _ _ _);go_enter Tryz.func73,Tryz.ntmps73;go_wp21;go_loopw [6,13] (λv i wr=>∃(k:Nat) (q:Option Addr) (d:Nat),k<=n/\i=.int .i64 (k:Int)/\v=.slice q k d/\Hid (qL w wr)/\Hid (wr.ownsRow w.heap.size 37 2 (.slice q k d) k (zbj (scK C Y k))))
  (λ_ i _=>n-(zL i).toNat)
 case atStart=>exact⟨0,none,0,zR _,rfl,rfl,D0,O0⟩
 case round=>
  clear D0 O0;obtain⟨k,q,d,hk,rfl,rfl,D1,O1⟩:=hrel;by_cases hlt:k<n
  ·obtain⟨b,off,rfl,hb,c0,c1⟩:=T.out k hlt
   have t0:wr.cell? ⟨b,off+k*2,none⟩=some (St (X k)):=by rw[D1.out.cell (p:=⟨b,off+k*2,none⟩) hb];exact c0
   have t1:wr.cell? ⟨b,off+k*2+1,none⟩=some (St (Y k)):=by rw[D1.out.cell (p:=⟨b,off+k*2+1,none⟩) hb];exact c1
   have M1:=hid (M.out k hlt);have HS:=hid (show scK C Y (k+1)=scK C Y k++[(C k,Y k)] from rfl);generalize X k=x at*
   generalize Y k=y at*
   generalize C k=z at*
   obtain⟨v1,hv⟩:=zzX (wr.alloc (.cells #[St x,St y] 37));have a1:qL wr v1:=by rw[hv];exact(zM _ wr).alloc (zN _) _
   have A1:v1.heap[wr.heap.size]? =some (.cells #[St x,St y] 37 (0,0)):=by rw[hv];exact zG wr _
   have k0:v1.cell? ⟨wr.heap.size,0,none⟩=some (St x):=by rw[zJ A1];rfl
   rw[hv] at k0;have HV1:=hid hv.symm;have E1:=hid (D1.out.trans (a1.mono D1.out.size));have B1:=hid A1;have O2:=hid (zcj (zac a1) O1.out);clear hv a1 A1 c0 c1 hb O1;go_wp21;rw[HV1.out];clear t0 t1 k0 HV1;refine zzM (M1.out v1 (HW.out _ E1.out)) λu1 hb1=>?_;have E2:=hid (E1.out.trans (hb1.mono E1.out.size));have O3:=hid (zcj (zac hb1) O2.out);have B2:=hid (zac hb1 _ _ _ _ B1.out);clear hb1 E1 O2 B1 M1;have k1:u1.cell? ⟨wr.heap.size,1,none⟩=some (St y):=by rw[zJ B2.out];rfl
   go_wp2_with (at_builtin;refine wpList_append_own _ rfl _ _ 25 rfl w.heap.size 37 i0 (.agg #[St [],St []]) 2 32 Tryz.underlying25 hi hz0 hz1 hz2 rfl (by decide) _ _ _ rfl (O3.out.alloc _) ⟨u1.heap.size,0,none⟩ 1 1 [St z,St y] rfl rfl (zoq _ _ _ _) (zm4 _ _) (by unfold maxLen;omega) (by omega) (by have:=E2.out.size;simp;omega) (λv' w' hown' hgrow _=>?_));obtain⟨g',c',rfl, -, -⟩:=zye hown' (by omega);have F1:Hid (qL w w'):=hid ((E2.out.alloc E2.out.size _).grown hgrow (by have:=E2.out.size;simp;omega) (λq e=>(O3.out.lt q e).1));have G1:Hid (w'.ownsRow w.heap.size 37 2 (.slice (some ⟨g',0,none⟩) (k+1) c') (k+1) (zbj (scK C Y (k+1)))):=hid (by rw[HS.out,zjb];exact hown');clear hgrow hown' E2 O3 B2 k1;go_roundw
   case rel=>exact⟨k+1,some ⟨g',0,none⟩,c',by omega,by go_num,rfl,F1,G1⟩
   case measure=>simp[zL];omega
  ·have hkn:k=n:=by omega
   subst hkn;go_wp21;go_ret2;exact⟨q,d,rfl,D1.out,O1.out⟩
def spV:Array Value:= #[.int .i64 4,.int .i64 16,.int .i64 64]
structure Spw (w:zA):Prop where
 pl:w.var? zF "kingpost/surd.signPlaces" =some spV
theorem Spw.below {w w':zA} (h:Spw w) (hb:qL w w'):Spw w':=by
 have hg:Tryz.prog.globalNamed "kingpost/surd.signPlaces" =some 0:=by kernel_rfl
 exact⟨var?_below hb hg (zv5 hg h.pl) h.pl⟩
theorem Spw.block {w:zA} (h:Spw w):∃t fz,w.heap[0]? =some (.cells spV t fz):=by
 have hg:Tryz.prog.globalNamed "kingpost/surd.signPlaces" =some 0:=by kernel_rfl
 have hv:=h.pl;unfold World.var? at hv;rw[hg] at hv;simp only[Option.bind_some] at hv
 cases hb:w.heap[(0:Nat)]? with
 |none=>rw[hb] at hv;cases hv
 |some x=>
  rw[hb] at hv
  cases x with
  |cells cs t fz=>simp at hv;subst hv;exact⟨t,fz,rfl⟩
  |_=>cases hv
def plN:Nat->Nat
 |0=>4
 |1=>16
 |_=>64
theorem z8x (i:Nat) (hi:i<3) (w:zA):(Instr.index 178 (.agg spV) (.int .i64 (i:Int))).run zF w=.ok (.int .i64 (plN i:Int)) w:=
 match i,hi with
 |0,_=>by kernel_rfl
 |1,_=>by kernel_rfl
 |2,_=>by kernel_rfl
theorem znq (n s:Nat) (hs:s*s<=n/\n<(s+1)*(s+1)) (hl:(zD n).length<=290) (w:zA) (hw:Wd w):
 qJ 205 #[St (zD n)] w (.tuple #[St (zD s),.int .i64 0]):=by
 obtain⟨t,ht⟩:=zzX (⟨(zD n).toArray⟩:ByteArray);obtain⟨s1,s2,s3,s4⟩:=zco _ (zci n) t ht;obtain⟨c,r,hd,hc1,hc2⟩:=dec_head n;have h45:(((t[0]'s2).toNat:Int)==45)=false:=by
  rw[beq_eq_false_iff_ne,s4 s2];simp only[hd,List.head_cons];omega
 have ck:∀W:zA,qJ 173 #[.string t] W (.int .i64 0):=λW=>by
  have:=zl4 (n:Int) (by unfold digs;rw[Int.natAbs_natCast];omega) W;rw[Str.zad] at this;rw[ht];exact this
 have rd:∀W:zA,zC zF 112 #[.string t] W λe w'=>∃v,e=.returned (.agg #[.bool false,v])/\Sl w' v ((zaa B9 n).map I)/\zB W.heap.size W w':=λW=>by
  have:=zc3 (n:Int) W (by unfold digs;rw[Int.natAbs_natCast];omega);rw[Str.zad,decide_eq_false (by omega),Int.natAbs_natCast] at this;rw[ht];exact this
 show zC _ _ #[.string ⟨(zD n).toArray⟩] _ _;rw[<-ht];by_cases h0:n=0
 ·have hs0:s=0:=by
   by_cases d:s=0
   ·exact d
   ·have:=Nat.mul_pos (show 0<s by omega) (show 0<s by omega);omega
  have h48:(t.toList==[48])=true:=by rw[ht,ByteArray.toList_eq,h0,zae (by omega)];rfl
  have:=z7g t s2 h45 h48 (hid ck) w;rw[hs0];rw[show St (zD 0)=.string t by rw[ht,h0]];exact this
 ·have h48:(t.toList==[48])=false:=zhl ht 0 (by omega) h0
  by_cases hsm:(zD n).length<=18
  ·have hn18:n<1000000000000000000:=(zaf n 18 (by omega)).1 hsm
   refine z6p t n s s2 h45 h48 (by omega) (hid ck) (hid rd) (hid λW hW=>?_) w (hid hw);refine zd3 t n s (by omega) (hid hn18) (hid hs) (hid λW=>?_) (hid λW hW=>?_) W (hid hW)
   ·have:=znc (n:Int) (by rw[Str.zad];exact hsm) W
    rw[Str.zad] at this;rw[ht];exact this
   ·have hsn:s<=n:=zO (Nat.le_mul_self s) hs.1
    have:=zb3 (s:Int) (by omega) (by omega) W hW;rw[Str.zad] at this;exact this
  ·obtain⟨k,hk⟩:∃k,(t.size+1)/2=k:=⟨_,rfl⟩
   have hn2:n<10^(2*k):=(zaf n (2*k) (by omega)).1 (by omega);have hk2:k<=146:=by omega
   have hX:=z7e hs.1 hn2;have hrep:=λW=>Tryz.strings_Repeat ⟨#[48]⟩ k W (by omega) (by show 1*k<=_;omega);have b9:∀m,m<10^320->(zaa B9 m).length<=400:=λm hm=>zO (zfv (k:=36) (by decide) (Nat.lt_of_lt_of_le hm (by decide+kernel))) (by omega);have n200:n<10^290:=(zaf n 290 (by omega)).1 hl;have x101:10^k<=10^146:=Nat.pow_le_pow_right (by omega) hk2;have p1:(10:Nat)^290+10^146<=10^320:=by decide+kernel
   have y1:(⟨#[49]⟩:ByteArray)++⟨(Lib.repeatL [48] k).toArray⟩=⟨(zD (10^k)).toArray⟩:=by
    rw[z13,zhy];exact z7h [49] (List.replicate k 48)
   refine z7f t ⟨(Lib.repeatL [48] k).toArray⟩ ⟨(zD (10^k)).toArray⟩ n s k (10^k) (hid hs) (by omega) (Nat.pos_of_ne_zero (by simp)) hX (hid ⟨b9 _ (by omega),b9 _ (by omega),b9 _ (by omega)⟩) s2 h45 h48 (by omega) (by omega) hk (hid ck) (hid rd) (hid hrep) (hid λW=>?_) ?_ y1 ?_ w (hid hw)
   ·have hx2:10^k<10^147:=Nat.pow_lt_pow_right (by omega) (by omega)
    have:=zc3 ((10^k:Nat):Int) W (by unfold digs;rw[Int.natAbs_natCast];exact zO ((zaf _ 147 (by omega)).2 hx2) (by omega));rw[Str.zad,decide_eq_false (by omega),Int.natAbs_natCast] at this;exact this
   ·show(Lib.repeatL [48] k).toArray.size<=1000
    rw[zhy];simp;omega
   ·unfold digs
    rw[Int.natAbs_natCast];exact zO ((zaf _ 147 (by omega)).2 (Nat.lt_of_le_of_lt (zO hX x101) (Nat.pow_lt_pow_right (by omega) (by omega)))) (by omega)
theorem z3j (c r d a1 a2 ten a3 rt q rest res:List UInt8) (n again zb:ByteArray) (hzb:zb.size<=1000) (ps:Nat) (hps:ps<=100) (n0:0<n.size) (ng:Bool)
 (hng:(((n[0]'n0).toNat:Int)==45)=ng)
 (P:Hid (qK 123 #[St c] (.tuple #[.string n,St d,.int .i64 0])))
 (M1:Hid (qK 50 #[.string n,.string n] (.tuple #[St a1,.int .i64 0])))
 (M2:Hid (qK 50 #[St a1,St r] (.tuple #[St a2,.int .i64 0])))
 (RP:Hid (∀W:zA,qJ 204 #[.string ⟨#[48]⟩,.int .i64 (2*(ps:Int))] W (.string zb)))
 (TN:Hid ((⟨#[49]⟩:ByteArray)++zb=⟨ten.toArray⟩))
 (M3:Hid (qK 50 #[St a2,St ten] (.tuple #[St a3,.int .i64 0])))
 (R:Hid (qK 205 #[St a3] (.tuple #[St rt,.int .i64 0])))
 (D:Hid (qK 118 #[St rt,St d] (.tuple #[St q,St rest,.int .i64 0])))
 (hpos:ng=false->q=res)
 (M4:Hid (ng=true->qK 50 #[St rt,St rt] (.tuple #[.string again,.int .i64 0])))
 (E:Hid (ng=true->((again.toList==a3)=true/\(rest==[48])=true/\qK 47 #[.string ⟨#[48]⟩,St q] (.tuple #[St res,.int .i64 0]))\/
   (((again.toList==a3)=false\/(rest==[48])=false)/\∃q1,(qK 53 #[St q,.string ⟨#[49]⟩] (.tuple #[St q1,.int .i64 0]))/\qK 47 #[.string ⟨#[48]⟩,St q1] (.tuple #[St res,.int .i64 0]))))
 (w:zA) (HW:Hid (Wd w)):
 qJ 127 #[.agg #[St c,St r],.int .i64 (ps:Int)] w (St res):=by
 have hw2:IntKind.i64.wrap (2*(ps:Int))=2*(ps:Int):=zI _ (by omega);obtain⟨v1,hv⟩:=zzX (w.alloc (.cells #[St c,St r] 37));have a1':qL w v1:=by rw[hv];exact(zM _ w).alloc (zN _) _
 have A1:v1.heap[w.heap.size]? =some (.cells #[St c,St r] 37 (0,0)):=by rw[hv];exact zG w _
 have k0:v1.cell? ⟨w.heap.size,0,none⟩=some (St c):=by rw[zJ A1];rfl
 rw[hv] at k0;have HV1:=hid hv.symm;have E1:=hid a1';have B1:=hid A1;clear hv a1' A1;go_enter Tryz.func127,Tryz.ntmps127;go_wp21;rw[HV1.out];clear k0 HV1;refine zzM (P.out v1 (HW.out.below E1.out)) λy1 hb1=>?_;have E2:=hid (E1.out.trans (hb1.mono E1.out.size));have B2:=hid (zac hb1 _ _ _ _ B1.out);clear hb1 E1 B1;go_wp21;refine zzM (M1.out y1 (HW.out.below E2.out)) λy2 hb1=>?_;have E3:=hid (E2.out.trans (hb1.mono E2.out.size));have B3:=hid (zac hb1 _ _ _ _ B2.out);clear hb1 E2 B2;have k1:y2.cell? ⟨w.heap.size,1,none⟩=some (St r):=by rw[zJ B3.out];rfl
 go_wp21;refine zzM (M2.out y2 (HW.out.below E3.out)) λy3 hb1=>?_;have E4:=hid (E3.out.trans (hb1.mono E3.out.size));clear hb1 E3 B3 k1;go_wp21;refine zzM (RP.out y3) λy4 hb1=>?_;have E5:=hid (E4.out.trans (hb1.mono E4.out.size));clear hb1 E4;go_wp21;rw[TN.out];refine zzM (M3.out y4 (HW.out.below E5.out)) λy5 hb1=>?_;have E6:=hid (E5.out.trans (hb1.mono E5.out.size));clear hb1 E5;go_wp21;refine zzM (R.out y5 (HW.out.below E6.out)) λy6 hb1=>?_;have E7:=hid (E6.out.trans (hb1.mono E6.out.size));clear hb1 E6;go_wp21;refine zzM (D.out y6 (HW.out.below E7.out)) λy7 hb1=>?_;have E8:=hid (E7.out.trans (hb1.mono E7.out.size));clear hb1 E7;cases ng
 ·obtain rfl:=hpos rfl
  clear M4 E;go_wp21;go_ret;exact⟨rfl,E8.out⟩
 ·have HM4:=hid (M4.out rfl);have HE:=hid (E.out rfl)
  clear M4 E hpos;go_wp21;refine zzM (HM4.out y7 (HW.out.below E8.out)) λy8 hb1=>?_;have E9:=hid (E8.out.trans (hb1.mono E8.out.size));clear hb1 E8 HM4;rcases HE.out with⟨e1,e2,hs⟩|⟨e1,q1,ha,hs⟩
  ·have HS:=hid hs;clear HE hs
   go_wp21;refine zzM (HS.out y8 (HW.out.below E9.out)) λy9 hb1=>?_;have F1:=hid (E9.out.trans (hb1.mono E9.out.size));clear hb1;go_wp21;go_ret;exact⟨rfl,F1.out⟩
  ·have HS:=hid hs;have HA:=hid ha;clear HE hs ha
   rcases e1 with e1|e1
   ·go_wp21
    refine zzM (HA.out y8 (HW.out.below E9.out)) λz1 hb1=>?_;have F1:=hid (E9.out.trans (hb1.mono E9.out.size));clear hb1;go_wp21;refine zzM (HS.out z1 (HW.out.below F1.out)) λz2 hb1=>?_;have F2:=hid (F1.out.trans (hb1.mono F1.out.size));clear hb1;go_wp21;go_ret;exact⟨rfl,F2.out⟩
   ·cases e2:(again.toList==a3)
    ·go_wp21
     refine zzM (HA.out y8 (HW.out.below E9.out)) λz1 hb1=>?_;have F1:=hid (E9.out.trans (hb1.mono E9.out.size));clear hb1;go_wp21;refine zzM (HS.out z1 (HW.out.below F1.out)) λz2 hb1=>?_;have F2:=hid (F1.out.trans (hb1.mono F1.out.size));clear hb1;go_wp21;go_ret;exact⟨rfl,F2.out⟩
    ·go_wp21
     refine zzM (HA.out y8 (HW.out.below E9.out)) λz1 hb1=>?_;have F1:=hid (E9.out.trans (hb1.mono E9.out.size));clear hb1;go_wp21;refine zzM (HS.out z1 (HW.out.below F1.out)) λz2 hb1=>?_;have F2:=hid (F1.out.trans (hb1.mono F1.out.size));clear hb1;go_wp21;go_ret;exact⟨rfl,F2.out⟩
def floT (c:Rat) (s N:Nat):Int:=if c.num<0 then-((s/c.den+(if s*s=N/\s%c.den=0 then 0 else 1):Nat):Int) else((s/c.den:Nat):Int)
theorem z3u (x y:Nat) (hx:(zD x).length<=300) (hy:(zD y).length<=300) (hxy:(zD (x*y)).length<=300) (w:zA) (hw:Wd w):
 qJ 50 #[St (zD x),St (zD y)] w (.tuple #[St (zD (x*y)),.int .i64 0]):=by
 have hz:digs ((x:Int)*(y:Int))<=300:=by rw[<-Int.natCast_mul,zd9];exact hxy
 have:=zhk (x:Int) (y:Int) (by rw[zd9];exact hx) (by rw[zd9];exact hy) w hw;rw[zcf hz,zcg hz,<-Int.natCast_mul,Str.zad,Str.zad,Str.zad] at this;exact this
theorem zva (x y:Int) (hx:digs x<=300) (hy:digs y<=300) (hxy:digs (x+y)<=300) (w:zA) (hw:Wd w):
 qJ 53 #[St (zE x),St (zE y)] w (.tuple #[St (zE (x+y)),.int .i64 0]):=by
 have:=z1c x y hx hy w hw;rwa [zcf hxy,zcg hxy] at this
theorem z6j (x y:Int) (hx:digs x<=300) (hy:digs y<=300) (hxy:digs (x-y)<=300) (w:zA) (hw:Wd w):
 qJ 47 #[St (zE x),St (zE y)] w (.tuple #[St (zE (x-y)),.int .i64 0]):=by
 have:=z1e x y hx hy w hw;rwa [zcf hxy,zcg hxy] at this
theorem z6a (x:Int) (h0:0<(⟨(zE x).toArray⟩:ByteArray).size):((((⟨(zE x).toArray⟩:ByteArray)[0]'h0).toNat:Int)==45)=decide (x<0):=by
 obtain⟨s1,s2,s3,s4⟩:=zco (zE x) (by rcases zbg x with⟨_,e⟩|⟨_,e⟩<;>rw[e];exact zci _;simp) _ rfl;rw[s4 h0];rcases zbg x with⟨hx,e⟩|⟨hx,e⟩
 ·obtain⟨c,r,hd,hc1,hc2⟩:=dec_head x.natAbs
  rw[decide_eq_false (by omega),beq_eq_false_iff_ne];simp only[e,hd,List.head_cons];omega
 ·rw[decide_eq_true (by omega)]
  simp only[e,List.head_cons];rfl
theorem zul (c:Rat) (r ps s N:Nat) (hoc:okQ c) (hc0:c≠0) (hr:0<r) (hps:ps<=100) (hN:c.num.natAbs*c.num.natAbs*r*10^(2*ps)=N) (hl:(zD N).length<=290) (hs:s*s<=N/\N<(s+1)*(s+1)) (w:zA) (hw:Wd w):
 qJ 127 #[.agg #[St (numS c),St (zD r)],.int .i64 (ps:Int)] w (St (zE (floT c s N))):=by
 obtain⟨n,hn⟩:=zzX c.num.natAbs;have n0:0<n:=by
  have:c.num≠0:=λe=>hc0 (Rat.num_eq_zero.1 e);omega
 obtain⟨t,ht⟩:=zzX (10^(2*ps));have t0:0<t:=by rw[ht];exact Nat.pos_of_ne_zero (by simp)
 rw[<-hn,<-ht] at hN;have le1:n<=n*n:=Nat.le_mul_self n;have le2:n*n<=n*n*r:=Nat.le_mul_of_pos_right _ hr;have le3:n*n*r<=n*n*r*t:=Nat.le_mul_of_pos_right _ t0;have le4:r<=n*n*r:=Nat.le_mul_of_pos_left _ (Nat.mul_pos n0 n0);have le5:t<=n*n*r*t:=Nat.le_mul_of_pos_left _ (Nat.mul_pos (Nat.mul_pos n0 n0) hr);rw[hN] at le3 le5;have len:∀{m:Nat},m<=N->(zD m).length<=300:=λh=>by have:=zt9 h;omega
 have hsN:s<=N:=z6f hs.1;have hsd:=Nat.div_le_self s c.den;have hN200:N<10^290:=(zaf N 290 (by omega)).1 hl;have p1:(10:Nat)^290+1<10^291:=by decide+kernel
 have dlen:∀z:Int,z.natAbs<=N+1->digs z<=300:=λz hz=>by
  have:=(zaf z.natAbs 291 (by omega)).2 (by omega);unfold digs;omega
 have hneg:∀k:Nat,k<=N+1->((0:Int)-(k:Int)).natAbs<=N+1:=λk h=>by omega
 have hpos:∀k:Nat,k<=N->((k:Int)+1).natAbs<=N+1:=λk h=>by omega
 have z48:zE 0=[48]:=zb9;have z49:zE 1=[49]:=by rw[show(1:Int)=((1:Nat):Int) from rfl,Str.zad,zae (by omega)];rfl
 have hdl:(zD c.den).length<=300:=hoc.2;have hrep:=λW=>Tryz.strings_Repeat ⟨#[48]⟩ (2*ps) W (by omega) (by show 1*(2*ps)<=_;omega);have hi0:0<(⟨(zE c.num).toArray⟩:ByteArray).size:=(zco (zE c.num) (by rcases zbg c.num with⟨_,e⟩|⟨_,e⟩<;>rw[e];exact zci _;simp) _ rfl).2.1
 refine z3j (numS c) (zD r) (zD c.den) (zD (n*n)) (zD (n*n*r)) (zD t) (zD N) (zD s) (zD (s/c.den)) (zD (s%c.den)) (zE (floT c s N)) ⟨(zE c.num).toArray⟩ ⟨(zD (s*s)).toArray⟩ ⟨(Lib.repeatL [48] (2*ps)).toArray⟩ (by show(Lib.repeatL [48] (2*ps)).toArray.size<=1000;rw[zhy];simp;omega) ps hps hi0 (decide (c.num<0)) (z6a c.num hi0)
  (hid λW hW=>zk5 c hoc W hW) (hid λW hW=>?_) (hid λW hW=>z3u _ _ (len (by omega)) (len (by omega)) (len le3) W hW) (hid λW=>?_) (hid ?_) (hid λW hW=>?_) (hid λW hW=>znq N s hs hl W hW) (hid λW hW=>zzn s c.den c.den_pos (len hsN) hdl W hW)
  (λh=>?_) (hid λ_ W hW=>z3u _ _ (len hsN) (len hsN) (len hs.1) W hW) (hid λh=>?_) w (hid hw)
 ·have hz:digs (c.num*c.num)<=300:=dlen _ (by rw[Int.natAbs_mul,<-hn];omega)
  have:=zhk c.num c.num hoc.1 hoc.1 W hW;rw[zcf hz,zcg hz,<-Int.natAbs_mul_self,Str.zad,<-hn] at this;exact this
 ·have:=hrep W
  exact this
 ·rw[ht,z13,zhy]
  exact z7h [49] (List.replicate (2*ps) 48)
 ·have:=z3u (n*n*r) t (len le3) (len le5) (len (by omega)) W hW
  rw[hN] at this;exact this
 ·have h':¬c.num<0:=by simpa using h
  unfold floT;rw[if_neg h',Str.zad]
 ·have h':c.num<0:=by simpa using h
  have hN0:(zD (s*s)).toArray.toList=zD (s*s):=by simp
  by_cases e:s*s=N/\s%c.den=0
  ·left
   refine⟨by rw[ByteArray.toList_eq,e.1];simp,by rw[e.2,zae (by omega)];rfl,λW hW=>?_⟩;have:=z6j 0 ((s/c.den:Nat):Int) (by rw[show(0:Int)=((0:Nat):Int) from rfl];exact dlen _ (by omega)) (dlen _ (by rw[Int.natAbs_natCast];omega)) (dlen _ (hneg _ (by omega))) W hW;rw[z48,Str.zad] at this;unfold floT;rw[if_pos h',if_pos e,Nat.add_zero,<-Int.zero_sub];exact this
  ·right
   refine⟨?_,zD (s/c.den+1),λW hW=>?_,λW hW=>?_⟩
   ·by_cases e1:s*s=N
    ·right
     have e2:s%c.den≠0:=λk=>e ⟨e1,k⟩;rw[beq_eq_false_iff_ne,<-z48,<-Str.zad];exact λk=>e2 (by have:=zdo k;omega)
    ·left
     rw[ByteArray.toList_eq,beq_eq_false_iff_ne,hN0,<-Str.zad,<-Str.zad];exact λk=>e1 (by have:=zdo k;omega)
   ·have:=zva ((s/c.den:Nat):Int) 1 (dlen _ (by rw[Int.natAbs_natCast];omega)) (dlen _ (by show(1:Nat)<=_;omega)) (dlen _ (hpos _ (by omega))) W hW
    rw[z49,show((s/c.den:Nat):Int)+1=((s/c.den+1:Nat):Int) by omega,Str.zad,Str.zad] at this;exact this
   ·have:=z6j 0 ((s/c.den+1:Nat):Int) (by rw[show(0:Int)=((0:Nat):Int) from rfl];exact dlen _ (by omega)) (dlen _ (by rw[Int.natAbs_natCast];omega)) (dlen _ (hneg _ (by omega))) W hW
    rw[z48,Str.zad] at this;unfold floT;rw[if_pos h',if_neg e,<-Int.zero_sub];exact this
def zap (n k:Nat) (z:Int):Int:=if 0<z then 1 else if z+n<0\/(z+n=0/\k=2) then-1 else 0
def sgnP (n:Nat) (Z:Nat->Int):Int:=if zap n 0 (Z 0)≠0 then zap n 0 (Z 0) else if zap n 1 (Z 1)≠0 then zap n 1 (Z 1) else zap n 2 (Z 2)
theorem zhp {n:Nat} {Z:Nat->Int}:∀{k:Nat},k<3->(∀j,j<k->zap n j (Z j)=0)->zap n k (Z k)≠0->sgnP n Z=zap n k (Z k)
 |0,_,_,h=>by unfold sgnP;rw[if_pos h]
 |1,_,h0,h=>by unfold sgnP;rw[if_neg (by simp[h0 0 (by omega)]),if_pos h]
 |2,_,h0,_=>by unfold sgnP;rw[if_neg (by simp[h0 0 (by omega)]),if_neg (by simp[h0 1 (by omega)])]
theorem znr {n:Nat} {Z:Nat->Int} (h:∀j,j<3->zap n j (Z j)=0):sgnP n Z=0:=by
 unfold sgnP;rw[if_neg (by simp[h 0 (by omega)]),if_neg (by simp[h 1 (by omega)]),h 2 (by omega)]
def errP (s:Int):Int:=if s=0 then 4 else 0
theorem zj5 (p:Option Addr) (cap n:Nat) (h0:0<n) (hn:n<=100) (X Y:Nat->List UInt8) (F Z:Nat->Nat->Int) (hZ0:Hid (∀k,Z k 0=0))
 (FL:Hid (∀k i,k<3->i<n->qK 127 #[.agg #[St (X i),St (Y i)],.int .i64 (plN k:Int)] (St (zE (F k i)))))
 (AD:Hid (∀k i,k<3->i<n->qK 53 #[St (zE (Z k i)),St (zE (F k i))] (.tuple #[St (zE (Z k (i+1))),.int .i64 0])))
 (A1:Hid (∀k j,k<3->j<n->qK 53 #[St (zE (Z k n+(j:Int))),.string ⟨#[49]⟩] (.tuple #[St (zE (Z k n+((j+1:Nat):Int))),.int .i64 0])))
 (CM:Hid (∀k j,k<3->j<=n->qK 83 #[St (zE (Z k n+(j:Int))),.string ⟨#[48]⟩] (.tuple #[.int .i64 (cmpZ (Z k n+(j:Int)) 0),.int .i64 0])))
 (w:zA) (HW:Hid (Wd w)) (HP:Hid (Spw w))
 (HT:Hid (∀i,i<n->∃b off,p=some ⟨b,off,none⟩/\b<w.heap.size/\w.cell? ⟨b,off+i*2,none⟩=some (St (X i))/\w.cell? ⟨b,off+i*2+1,none⟩=some (St (Y i)))):
 qJ 62 #[.slice p n cap] w (.tuple #[.int .i64 (sgnP n λk=>Z k n),.int .i64 (errP (sgnP n λk=>Z k n))]):=by
 obtain⟨tt,fz,hblk⟩:=HP.out.block;have hz:((n:Int)==0)=false:=by rw[beq_eq_false_iff_ne];omega
 have D0:=hid (zM w.heap.size w);go_enter Tryz.func62,Tryz.ntmps62;go_wp2_with (refine wpList_load_row rfl 178 (.global 0) rfl 0 rfl tt spV fz (.array 3 3) hblk (by kernel_rfl) rfl (by kernel_rfl) ?_);go_loopw [17] (λi wr=>∃(k:Nat),k<=3/\i=.int .i64 (k:Int)/\Hid (∀j,j<k->zap n j (Z j n)=0)/\Hid (qL w wr))
  (λi _=>3-(zL i).toNat)
 case atStart=>exact⟨0,by omega,rfl,hid (λj h=>by omega),D0⟩
 case round=>
  clear D0 hblk;obtain⟨k,hk,rfl,HU,DK⟩:=hrel;by_cases hlk:k<3
  ·have hx:=λw=>z8x k hlk w
   have HFL:=hid (λi=>FL.out k i hlk);have HAD:=hid (λi=>AD.out k i hlk);have HA1:=hid (λi=>A1.out k i hlk);have HCM:=hid (λj=>CM.out k j hlk);have hS:Value.string ⟨#[48]⟩=St (zE (Z k 0)):=by rw[hZ0.out,zb9]
   have hk3:((k:Int)+1==3)=decide (k=2):=by
    by_cases e:k=2
    ·subst e;rfl
    ·rw[decide_eq_false e,beq_eq_false_iff_ne];omega
   have hwk:IntKind.i64.wrap ((k:Int)+1)=(k:Int)+1:=zI _ (by omega);generalize plN k=pl at*
   have HK3:=hid hk3;clear hk3;go_wp21;rw[hS]
   try rw[show decide ((k:Int)<3)=true from decide_eq_true (by omega)]
   clear hS hx;go_loopw [6,23] (λv i wr=>∃(i0:Nat),i0<=n/\i=.int .i64 (i0:Int)/\v=St (zE (Z k i0))/\Hid (qL w wr))
    (λ_ i _=>n-(zL i).toNat)
   case atStart=>exact⟨0,zR _,rfl,rfl,DK⟩
   case round=>
    clear DK;obtain⟨i0,hi0,rfl,rfl,D1⟩:=hrel;by_cases hlt:i0<n
    ·obtain⟨b,off,rfl,hb,c0,c1⟩:=HT.out i0 hlt
     have t0:wr.cell? ⟨b,off+i0*2,none⟩=some (St (X i0)):=by rw[D1.out.cell (p:=⟨b,off+i0*2,none⟩) hb];exact c0
     have t1:wr.cell? ⟨b,off+i0*2+1,none⟩=some (St (Y i0)):=by rw[D1.out.cell (p:=⟨b,off+i0*2+1,none⟩) hb];exact c1
     have M1:=hid (HFL.out i0 hlt);have M2:=hid (HAD.out i0 hlt);generalize X i0=x at*
     generalize Y i0=y at*
     generalize zE (F k i0)=z at*
     generalize zE (Z k i0)=sk at*
     obtain⟨v1,hv⟩:=zzX (wr.alloc (.cells #[St x,St y] 37));have a1:qL wr v1:=by rw[hv];exact(zM _ wr).alloc (zN _) _
     have A1:v1.heap[wr.heap.size]? =some (.cells #[St x,St y] 37 (0,0)):=by rw[hv];exact zG wr _
     have k0:v1.cell? ⟨wr.heap.size,0,none⟩=some (St x):=by rw[zJ A1];rfl
     have k1:v1.cell? ⟨wr.heap.size,1,none⟩=some (St y):=by rw[zJ A1];rfl
     rw[hv] at k0 k1;have HV1:=hid hv.symm;have E1:=hid (D1.out.trans (a1.mono D1.out.size));clear hv a1 A1 c0 c1 hb;go_wp21;rw[HV1.out];clear t0 t1 k0 k1 HV1;refine zzM (M1.out v1 (HW.out.below E1.out)) λy1 hb1=>?_;have E2:=hid (E1.out.trans (hb1.mono E1.out.size));clear hb1 E1 M1;go_wp21;refine zzM (M2.out y1 (HW.out.below E2.out)) λy2 hb1=>?_;have E3:=hid (E2.out.trans (hb1.mono E2.out.size));clear hb1 E2 M2;go_wp21;go_roundw
     case rel=>exact⟨i0+1,by omega,by go_num,rfl,E3⟩
     case measure=>simp[zL];omega
    ·have hkn:i0=n:=by omega
     subst hkn;have hC0:=HCM.out 0 (zR _);rw[show Z k i0+((0:Nat):Int)=Z k i0 by omega] at hC0;have HC0:=hid hC0;clear hC0;obtain⟨T,hT⟩:=zzX ( λ(j:Nat)=>zE (Z k i0+(j:Int)):Nat->List UInt8);have hTn:St (zE (Z k i0))=St (T 0):=by rw[hT];show St (zE (Z k i0))=St (zE (Z k i0+((0:Nat):Int)));rw[show Z k i0+((0:Nat):Int)=Z k i0 by omega]
     have HTN:=hid hTn;clear hTn;have HB1:Hid (∀j,j<i0->qK 53 #[St (T j),.string ⟨#[49]⟩] (.tuple #[St (T (j+1)),.int .i64 0])):=hid (by rw[hT];exact HA1.out);have HB2:Hid (qK 83 #[St (T i0),.string ⟨#[48]⟩] (.tuple #[.int .i64 (cmpZ (Z k i0+(i0:Int)) 0),.int .i64 0])):=hid (by rw[hT];exact HCM.out i0 (zN _));clear HFL HAD HA1 HCM hT;by_cases hp:0<Z k i0
     ·have hd:decide (0<cmpZ (Z k i0) 0)=true:=by unfold cmpZ;rw[if_neg (by omega),if_pos (by omega)];rfl
      have hc1:cmpZ (Z k i0) 0=1:=by unfold cmpZ;rw[if_neg (by omega),if_pos (by omega)]
      have hs1:zap i0 k (Z k i0)=1:=by unfold zap;rw[if_pos hp]
      have hres:(sgnP i0 λk=>Z k i0)=1:=by rw[zhp hlk HU.out (by show zap i0 k (Z k i0)≠0;rw[hs1];decide)];exact hs1
      have HRES:=hid hres;rw[hc1] at HC0;generalize zE (Z k i0)=zs at*
      clear hp hd hc1 hs1 hres;go_wp21;refine zzM (HC0.out wr (HW.out.below D1.out)) λy1 hb1=>?_;have E1:=hid (D1.out.trans (hb1.mono D1.out.size));clear hb1 HC0;go_wp21;go_ret2;exact⟨by rw[HRES.out];rfl,E1.out⟩
     ·have hd:decide (0<cmpZ (Z k i0) 0)=false:=by
       unfold cmpZ;by_cases h2:Z k i0<0
       ·rw[if_pos h2];rfl
       ·rw[if_neg h2,if_neg (by omega)];rfl
      have HNP:=hid hp;clear hp;obtain⟨c,hc⟩:=zzX (cmpZ (Z k i0) 0);rw[<-hc] at hd HC0;clear hc;go_wp21;refine zzM (HC0.out wr (HW.out.below D1.out)) λy1 hb1=>?_;have E1:=hid (D1.out.trans (hb1.mono D1.out.size));clear hb1 HC0;go_wp21;rw[HTN.out];clear hd;go_loopw [6,45] (λv i wr=>∃(j:Nat),j<=i0/\i=.int .i64 (j:Int)/\v=St (T j)/\Hid (qL w wr))
       (λ_ i _=>i0-(zL i).toNat)
      case atStart=>exact⟨0,zR _,rfl,rfl,E1⟩
      case round=>
       clear E1;obtain⟨j,hj,rfl,rfl,D2⟩:=hrel;by_cases hlt:j<i0
       ·have M2:=hid (HB1.out j hlt)
        go_wp21;refine zzM (M2.out _ (HW.out.below D2.out)) λy2 hb1=>?_;have E3:=hid (D2.out.trans (hb1.mono D2.out.size));clear hb1 M2;go_wp21;go_roundw
        case rel=>exact⟨j+1,by omega,by go_num,rfl,E3⟩
        case measure=>simp[zL];omega
       ·have hji:j=i0:=by omega
        subst hji;have HC1:=HB2;clear HB2 HB1 HTN;obtain⟨z,hz⟩:=zzX (Z k j+(j:Int));rw[<-hz] at HC1;have HZ:=hid hz;clear hz;by_cases hneg:z<0
        ·have hd:decide (cmpZ z 0<0)=true:=by unfold cmpZ;rw[if_pos hneg];rfl
         have hs1:zap j k (Z k j)= -1:=by unfold zap;rw[if_neg (by have:=HNP.out;omega),if_pos (.inl (by rw[<-HZ.out];exact hneg))]
         have hres:(sgnP j λk=>Z k j)= -1:=by rw[zhp hlk HU.out (by show zap j k (Z k j)≠0;rw[hs1];decide)];exact hs1
         have HRES:=hid hres;generalize cmpZ z 0=c at*
         clear hs1 hres hneg;go_wp21;refine zzM (HC1.out _ (HW.out.below D2.out)) λy2 hb1=>?_;have E3:=hid (D2.out.trans (hb1.mono D2.out.size));clear hb1 HC1;go_wp21;go_ret2;exact⟨by rw[HRES.out];rfl,E3.out⟩
        ·have hd:decide (cmpZ z 0<0)=false:=by
          unfold cmpZ;rw[if_neg hneg];split<;>rfl
         by_cases hl:z=0/\k=2
         ·have hd2:(cmpZ z 0==0)=true:=by rw[hl.1];rfl
          have hd3:((k:Int)+1==3)=true:=by rw[HK3.out,decide_eq_true hl.2]
          have hs1:zap j k (Z k j)= -1:=by unfold zap;rw[if_neg (by have:=HNP.out;omega),if_pos (.inr ⟨by rw[<-HZ.out];exact hl.1,hl.2⟩)]
          have hres:(sgnP j λk=>Z k j)= -1:=by rw[zhp hlk HU.out (by show zap j k (Z k j)≠0;rw[hs1];decide)];exact hs1
          have HRES:=hid hres;generalize cmpZ z 0=c at*
          clear hs1 hres hneg hl;go_wp21;refine zzM (HC1.out _ (HW.out.below D2.out)) λy2 hb1=>?_;have E3:=hid (D2.out.trans (hb1.mono D2.out.size));clear hb1 HC1;go_wp21;go_ret2;exact⟨by rw[HRES.out];rfl,E3.out⟩
         ·have hs1:zap j k (Z k j)=0:=by unfold zap;rw[if_neg (by have:=HNP.out;omega),if_neg (by rw[<-HZ.out];omega)]
          have HS1:=hid hs1;have hnx:Hid (∀i,i<k+1->zap j i (Z i j)=0):=hid λi hi=>by
           by_cases e:i=k
           ·rw[e];exact HS1.out
           ·exact HU.out i (by omega)
          have hcs:(cmpZ z 0==0)=false\/((cmpZ z 0==0)=true/\((k:Int)+1==3)=false):=by
           by_cases e:z=0
           ·right
            exact⟨by rw[e];rfl,by rw[HK3.out,decide_eq_false (λh=>hl ⟨e,h⟩)]⟩
           ·left
            unfold cmpZ;rw[if_neg hneg,if_pos (by omega)];rfl
          generalize cmpZ z 0=c at*
          clear hs1 hneg hl;rcases hcs with hc|⟨hc,hc3⟩
          ·go_wp21
           refine zzM (HC1.out _ (HW.out.below D2.out)) λy2 hb1=>?_;have E3:=hid (D2.out.trans (hb1.mono D2.out.size));clear hb1 HC1;go_wp21;go_roundw
           case rel=>exact⟨k+1,by omega,by go_num,hnx,E3⟩
           case measure=>simp[zL];omega
          ·go_wp21
           refine zzM (HC1.out _ (HW.out.below D2.out)) λy2 hb1=>?_;have E3:=hid (D2.out.trans (hb1.mono D2.out.size));clear hb1 HC1;go_wp21;go_roundw
           case rel=>exact⟨k+1,by omega,by go_num,hnx,E3⟩
           case measure=>simp[zL];omega
  ·have hk3:k=3:=by omega
   subst hk3;have HRES:=hid (znr (Z:=λk=>Z k n) HU.out);go_wp21;go_ret2;exact⟨by rw[HRES.out];rfl,DK.out⟩
theorem zyl:NrmR 1/\NrmR 2:=⟨⟨by decide,by rw[zae (by omega)];simp,zln.1⟩,⟨by decide,by rw[zae (by omega)];simp,zln.2.1⟩⟩
theorem z5d (a u q f r:List UInt8)
 (D:Hid (qK 101 #[St a,St u] (.tuple #[St q,.int .i64 0])))
 (F:Hid (qK 148 #[St q] (.tuple #[St f,.int .i64 0])))
 (M:Hid (qK 11 #[St f,St u] (.tuple #[St r,.int .i64 0])))
 (w:zA) (HW:Hid (Wd w)):
 qJ 280 #[St a,St u] w (.tuple #[St r,.int .i64 0]):=by
 go_enter Tryz.func280,Tryz.ntmps280;go_wp21;refine zzM (D.out w HW.out) λw1 hb1=>?_;have B1:=hid hb1;clear hb1;go_wp21;refine zzM (F.out w1 (HW.out.below B1.out)) λw2 hb2=>?_;have B2:=hid (B1.out.trans (hb2.mono B1.out.size));clear hb2 B1;go_wp21;refine zzM (M.out w2 (HW.out.below B2.out)) λw3 hb3=>?_;have B3:=hid (B2.out.trans (hb3.mono B2.out.size));clear hb3 B2;go_wp21;go_ret2;exact⟨rfl,B3.out⟩
theorem zjn (v1 v2:Value) (sg e2:Int) (R:Value->zA->Prop) (E F:Prop) (w:zA)
 (S:Hid (zC zF 61 #[v1,v2] w λe w'=>∃q n c r,e=.returned (.tuple #[.slice q n c,.int .i64 r])/\zB w.heap.size w w'/\((r=0/\R (.slice q n c) w'/\E)\/(r=4/\F))))
 (G:Hid (∀(W:zA) (u:Value),E->qL w W->R u W->qJ 62 #[u] W (.tuple #[.int .i64 sg,.int .i64 e2]))):
 zC zF 14 #[v1,v2] w λe w'=>∃m r,e=.returned (.tuple #[.int .i64 m,.int .i64 r])/\zB w.heap.size w w'/\((r=4/\m=0/\F)\/(m=sg/\r=e2/\E)):=by
 go_enter Tryz.func14,Tryz.ntmps14;go_wp21;refine S.out.mono ?_;rintro e w1 ⟨q,n,c,r,rfl,hb1,hr⟩;have B1:=hid hb1;rcases hr with⟨rfl,hr,hE⟩|⟨rfl,hF⟩
 ·have HG:=hid (G.out w1 _ hE hb1 hr)
  have HE:=hid hE;clear hb1 hr G S hE;go_wp21;refine zzM HG.out λw2 hb2=>?_;have B2:=hid (B1.out.trans (hb2.mono B1.out.size));clear hb2;go_wp21;go_ret2;exact⟨_,_,rfl,B2.out,.inr ⟨rfl,rfl,HE.out⟩⟩
 ·have HF:=hid hF
  clear hb1 G S hF;go_wp21;go_ret2;exact⟨_,_,rfl,B1.out,.inl ⟨rfl,rfl,HF.out⟩⟩
theorem zzh (v1 v2:Value) (K:Nat) (sg:Int) (R:Option Addr->Nat->zA->Prop) (w:zA)
 (S:Hid (zC zF 61 #[v1,v2] w λe w'=>∃q d,e=.returned (.tuple #[.slice q K d,.int .i64 0])/\zB w.heap.size w w'/\R q d w'))
 (G:Hid (∀(W:zA) (q:Option Addr) (d:Nat),qL w W->R q d W->qJ 62 #[.slice q K d] W (.tuple #[.int .i64 sg,.int .i64 0]))):
 qJ 14 #[v1,v2] w (.tuple #[.int .i64 sg,.int .i64 0]):=
 (zjn v1 v2 sg 0 (λu W=>∃q d,u=.slice q K d/\R q d W) True False w (hid (S.out.mono λe w' ⟨q,d,h1,h2,h3⟩=>⟨q,K,d,0,h1,h2,.inl ⟨rfl,⟨q,d,rfl,h3⟩,trivial⟩⟩)) (hid λW u _ hW ⟨q,d,hu,hr⟩=>by subst hu;exact G.out W q d hW hr)).mono λe w' ⟨m,r,h1,h2,h3⟩=>by
   rcases h3 with⟨_,_,h⟩|⟨rfl,rfl, -⟩
   ·exact h.elim
   ·exact⟨h1,h2⟩
theorem z5k (s:Value) (a:List UInt8) (K:Nat) (sg:Int) (h1: -2<sg) (h2:sg<2) (R:Option Addr->Nat->zA->Prop) (w:zA)
 (M:Hid (∀W:zA,qL w W->W.cell? ⟨w.heap.size,0,none⟩=some (St a)->W.cell? ⟨w.heap.size,1,none⟩=some (.string ⟨#[49]⟩)->zC zF 13 #[.slice (some ⟨w.heap.size,0,none⟩) 1 1] W λe w'=>∃q d,e=.returned (.tuple #[.slice q K d,.int .i64 0])/\zB W.heap.size W w'/\R q d w'))
 (C:Hid (∀(W:zA) (q:Option Addr) (d:Nat),qL w W->R q d W->qJ 14 #[.slice q K d,s] W (.tuple #[.int .i64 sg,.int .i64 0]))):
 qJ 214 #[s,St a] w (.tuple #[.int .i64 (-sg),.int .i64 0]):=by
 obtain⟨v1,hv⟩:=zzX (w.alloc (.cells #[St a,.string ⟨#[49]⟩] 37));have a1:qL w v1:=by rw[hv];exact(zM _ w).alloc (zN _) _
 have A1:v1.heap[w.heap.size]? =some (.cells #[St a,.string ⟨#[49]⟩] 37 (0,0)):=by rw[hv];exact zG w _
 have HM:=hid (M.out v1 a1 (by rw[zJ A1];rfl) (by rw[zJ A1];rfl));have HV1:=hid hv.symm;have E1:=hid a1;have hw64:IntKind.i64.wrap (-sg)= -sg:=zI _ (by omega);clear hv a1 A1 M;go_enter Tryz.func214,Tryz.ntmps214;go_wp21;rw[HV1.out];clear HV1;refine HM.out.mono ?_;rintro e w1 ⟨q,d,rfl,hb1,hr⟩;have hb:=E1.out.trans (hb1.mono E1.out.size);have B1:=hid hb;have HG:=hid (C.out w1 q d hb hr);clear hb1 hr C HM hb E1;go_wp21;refine zzM HG.out λw2 hb2=>?_;have B2:=hid (B1.out.trans (hb2.mono B1.out.size));clear hb2;go_wp21;go_ret2;exact⟨rfl,B2.out⟩
theorem z0o (p1 p2:Option Addr) (n1 n2 c1 c2 N:Nat) (R R2:Option Addr->Nat->zA->Prop) (R3:Value->Int->zA->Prop) (w:zA)
 (B:Hid (qJ 71 #[.slice p1 n1 c1,.slice p2 n2 c2] w (.bool true)))
 (S:Hid (∀W:zA,qL w W->zC zF 73 #[.slice p2 n2 c2,.string ⟨#[45,49]⟩] W λe w'=>∃q d,e=.returned (.tuple #[.slice q n2 d,.int .i64 0])/\zB W.heap.size W w'/\R q d w'))
 (CN:Hid (∀(W:zA) (q:Option Addr) (d b:Nat),qL w W->w.heap.size<=b->(∃W0,qL w W0/\R q d W0/\zB W0.heap.size W0 W)->W.cell? ⟨b,0,none⟩=some (.slice p1 n1 c1)->W.cell? ⟨b,1,none⟩=some (.slice q n2 d)->zC zF 72 #[.slice (some ⟨b,0,none⟩) 2 2] W λe w'=>∃q' d',e=.returned (.slice q' N d')/\zB W.heap.size W w'/\R2 q' d' w'))
 (M:Hid (∀(W:zA) (q:Option Addr) (d:Nat),qL w W->R2 q d W->zC zF 13 #[.slice q N d] W λe w'=>∃q n c r,e=.returned (.tuple #[.slice q n c,.int .i64 r])/\zB W.heap.size W w'/\R3 (.slice q n c) r w')):
 zC zF 61 #[.slice p1 n1 c1,.slice p2 n2 c2] w λe w'=>∃q n c r,e=.returned (.tuple #[.slice q n c,.int .i64 r])/\zB w.heap.size w w'/\R3 (.slice q n c) r w':=by
 go_enter Tryz.func61,Tryz.ntmps61;go_wp21;refine zzM B.out λw1 hb1=>?_;have B1:=hid hb1;have HS:=hid (S.out w1 hb1);clear hb1 B S;go_wp21;refine HS.out.mono ?_;rintro e w2 ⟨q,d,rfl,hb2,hr⟩;have hb:=B1.out.trans (hb2.mono B1.out.size);obtain⟨v1,hv⟩:=zzX (w2.alloc (.cells #[.slice p1 n1 c1,.slice q n2 d] 26));have a1:qL w2 v1:=by rw[hv];exact(zM _ w2).alloc (zN _) _
 have A1:v1.heap[w2.heap.size]? =some (.cells #[.slice p1 n1 c1,.slice q n2 d] 26 (0,0)):=by rw[hv];exact zG w2 _
 have HC:=hid (CN.out v1 q d w2.heap.size (hb.trans (a1.mono hb.size)) hb.size ⟨w2,hb,hr,a1⟩ (by rw[zJ A1];rfl) (by rw[zJ A1];rfl));have HV1:=hid hv.symm;have B2:=hid (hb.trans (a1.mono hb.size));clear hv a1 A1 CN hb hb2 hr HS B1;go_wp21;rw[HV1.out];clear HV1;refine HC.out.mono ?_;rintro e w3 ⟨q2,d2,rfl,hb3,hr3⟩;have hb:=B2.out.trans (hb3.mono B2.out.size);have B3:=hid hb;have HM:=hid (M.out w3 q2 d2 hb hr3);clear hb hb3 hr3 M HC B2;go_wp21;refine HM.out.mono ?_;rintro e w4 ⟨q4,n4,d4,r4,rfl,hb4,hr4⟩;have FE:=hid (⟨B3.out.trans (hb4.mono B3.out.size),hr4⟩:qL w w4/\R3 (.slice q4 n4 d4) r4 w4);clear hb4 hr4 HM B3;go_wp21;go_ret2;exact⟨q4,n4,d4,r4,rfl,FE.out.1,FE.out.2⟩
theorem yag (x u v:List UInt8) (t:ByteArray) (ht:t=⟨(trimPrefix u [45]).toArray⟩) (h1:decide (20<(t.size:Int))=false) (h2:decide (20<(v.length:Int))=false) (w:zA) (HW:Hid (Wd w))
 (PA:Hid (qK 123 #[St x] (.tuple #[St u,St v,.int .i64 0]))):
 qJ 212 #[St x] w (.bool false):=by
 have ht2:∀W,zC zF 145 #[St u,.string ⟨#[45]⟩] W λe w'=>e=.returned (.string t)/\w'=W:=λW=>by
  rw[ht];exact Tryz.strings_TrimPrefix ⟨u.toArray⟩ ⟨#[45]⟩ W
 obtain⟨d,hd⟩:=zzX (⟨v.toArray⟩:ByteArray);have hds:d.size=v.length:=by rw[hd];show v.toArray.size=_;simp
 rw[<-hds] at h2;have HT:=hid ht2;have PA2:Hid (qK 123 #[St x] (.tuple #[St u,.string d,.int .i64 0])):=hid (by rw[hd];exact PA.out);clear ht ht2 hd hds PA;go_enter Tryz.func212,Tryz.ntmps212;go_wp21;refine zzM (PA2.out _ HW.out) λw1 hb1=>?_;have B1:=hid hb1;clear hb1;go_wp21;refine zzM (HT.out w1) λw2 hw2=>?_;have B2:Hid (qL w w2):=hid (by rw[hw2];exact B1.out);clear hw2;go_wp21;go_ret;exact⟨rfl,B2.out⟩
theorem z9k (c r:List UInt8) (L:Hid (qK 212 #[St c] (.bool false))) (w:zA) (HW:Hid (Wd w)):
 qJ 211 #[.agg #[St c,St r]] w (.bool false):=by
 obtain⟨v1,hv⟩:=zzX (w.alloc (.cells #[St c,St r] 37));have a1:qL w v1:=by rw[hv];exact(zM _ w).alloc (zN _) _
 have A1:v1.heap[w.heap.size]? =some (.cells #[St c,St r] 37 (0,0)):=by rw[hv];exact zG w _
 have k0:v1.cell? ⟨w.heap.size,0,none⟩=some (St c):=by rw[zJ A1];rfl
 rw[hv] at k0;have HV1:=hid hv.symm;have E1:=hid a1;clear hv a1 A1;go_enter Tryz.func211,Tryz.ntmps211;go_wp21;rw[HV1.out];clear k0 HV1;refine zzM (L.out v1 (HW.out.below E1.out)) λy1 hb1=>?_;have E2:=hid (E1.out.trans (hb1.mono E1.out.size));clear hb1;go_wp21;go_ret;exact⟨rfl,E2.out⟩
theorem z5e (a ar b br:List UInt8) (n:Int) (CM:Hid (qK 27 #[St ar,St br] (.tuple #[.int .i64 n,.int .i64 0]))) (w:zA) (HW:Hid (Wd w)):
 qJ 60 #[.agg #[St a,St ar],.agg #[St b,St br]] w (.int .i64 n):=by
 obtain⟨v1,hv⟩:=zzX (w.alloc (.cells #[St a,St ar] 37));have a1:qL w v1:=by rw[hv];exact(zM _ w).alloc (zN _) _
 have A1:v1.heap[w.heap.size]? =some (.cells #[St a,St ar] 37 (0,0)):=by rw[hv];exact zG w _
 have s1:v1.heap.size=w.heap.size+1:=by rw[hv];simp
 obtain⟨v2,hv2⟩:=zzX (v1.alloc (.cells #[St b,St br] 37));have a2:qL v1 v2:=by rw[hv2];exact(zM _ v1).alloc (zN _) _
 have A2:v2.heap[w.heap.size+1]? =some (.cells #[St b,St br] 37 (0,0)):=by rw[hv2,<-s1];exact zG v1 _
 have A3:=zac a2 _ _ _ _ A1;have k0:v2.cell? ⟨w.heap.size,1,none⟩=some (St ar):=by rw[zJ A3];rfl
 have k1:v2.cell? ⟨w.heap.size+1,1,none⟩=some (St br):=by rw[zJ A2];rfl
 have E1:=hid (a1.trans (a2.mono a1.size));rw[hv] at hv2;rw[hv2] at k0 k1;have HV:=hid hv2.symm;clear hv hv2 a1 a2 A1 A2 A3 s1;go_enter Tryz.func60,Tryz.ntmps60;go_wp21;rw[HV.out];clear k0 k1 HV;refine zzM (CM.out v2 (HW.out.below E1.out)) λy1 hb1=>?_;have E2:=hid (E1.out.trans (hb1.mono E1.out.size));clear hb1;go_wp21;go_ret;exact⟨rfl,E2.out⟩
theorem z61 (a b c:Rat) (i j:Nat) (hi:0<i) (hj:0<j) (hij:i+j<=300) (ha:sz a i) (hb:sz b j) (h:a*b=c) (W:zA) (hW:Wd W):qJ 11 #[St (numS a),St (numS b)] W (.tuple #[St (numS c),.int .i64 0]):=by
 rw[<-h];exact zjf a b i j hi hj hij ha hb W hW
theorem zsf {a:Rat} (h:a≠0):(numS a==[48])=false:=by rw[beq_eq_false_iff_ne];exact λe=>h ((zpy a).1 e)
def strT (t:Rat×Nat):List UInt8×List UInt8:=(numS t.1,zD t.2)
theorem zi3:∀l:List (Rat×Nat),zin (l.map strT)=(l.filter λc=>!decide (c.1=0)).map strT
 |[]=>rfl
 |c::l=>by
  have ih:=zi3 l;unfold zin at ih⊢;rw[List.map_cons,List.filter_cons,List.filter_cons,ih];by_cases e:c.1=0
  ·have h1:((strT c).1==[48])=true:=by unfold strT;rw[e];simp[zie]
   simp[h1,e]
  ·have h1:((strT c).1==[48])=false:=zsf e
   simp[h1,e]
theorem zf4 (r s:Nat) (h:NrmR r) (hs:NrmR s) (ha:z5c (r:Rat) (s:Rat)=false) (W:zA) (hW:Wd W):qJ 121 #[St (zD r),St (zD s)] W (.tuple #[.string ⟨#[]⟩,.bool false,.int .i64 0]):=by
 have hp:(0:Rat)<(r:Rat):=by have:=h.pos;exact_mod_cast this
 have hq:(0:Rat)<(s:Rat):=by have:=hs.pos;exact_mod_cast this
 have sr:sz (r:Rat) 90:=(zrg (by omega) h.len).mono (by omega);have ss:sz (s:Rat) 90:=(zrg (by omega) hs.len).mono (by omega);have:=zvz (r:Rat) (s:Rat) (Rat.le_of_lt hp) hq sr ss _ _ (zv0 _) (zv0 _) W hW;unfold z5c at ha;rw[ha,zhe,zhe] at this;exact this
end Go.Proofs.YtmeekcnlacckfaaGreatDoor
