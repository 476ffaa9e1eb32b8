/- kingpostlaw10.PolygonSame: the two ends of a side, in boxes of their own; what the walk leans on. -/
import Derived.Test.YtlaccnphhomdgaaGreatDoorQ18
import Derived.Test.YtlaccnphhomdgaaGreatDoorQ27
import Derived.Test.YtlaccnphhomdgaaGreatDoorQ11
set_option maxRecDepth 100000
set_option maxHeartbeats 8000000
open Go renaming World → zA, Calls → zC
open Go.RowKit renaming Below → zB
open Go.Proofs.Tryz renaming prog → zF
open Go.World renaming alloc_heap_new → zG
open Go.IntWalk renaming i64_in → zI
open Go.Joins renaming cell_of_block → zJ, block_setCell → zK
open Go.RowKit.Below renaming refl → zM, heap_setCell → yE
open Nat renaming le_refl → zN
namespace Go.Proofs.YtlaccnphhomdgaaGreatDoor
section
open Go.RowKit Go.Shelf Lib Str Limb Geo
def pqC (b:Bool) (x y:ByteArray):Array Value:=if b=true then #[.string x,.string y] else #[St [],St []]
structure PqS (w:zA) (x y u v:ByteArray) (q:Nat×Nat) (f:Nat->Bool) (W:zA):Prop where
 bel:zB w.heap.size w W
 lo1:f 12=true->w.heap.size<=q.1
 lo2:f 13=true->w.heap.size<=q.2
 ne:f 12=true->f 13=true->q.1≠q.2
 a:f 12=true->W.heap[q.1]? =some (.cells (pqC (f 14) x y) 27 (0,0))
 b:f 13=true->W.heap[q.2]? =some (.cells (pqC (f 15) u v) 27 (0,0))
section
variable {w W:zA} {x y u v:ByteArray} {q:Nat×Nat} {f g:Nat->Bool}
theorem PqS.congr (h:PqS w x y u v q f W) (e12:g 12=f 12) (e13:g 13=f 13) (e14:g 14=f 14) (e15:g 15=f 15):PqS w x y u v q g W:=
 ⟨h.bel,by rw[e12];exact h.lo1,by rw[e13];exact h.lo2,by rw[e12,e13];exact h.ne,by rw[e12,e14];exact h.a,by rw[e13,e15];exact h.b⟩
theorem PqS.newA (h:PqS w x y u v q f W) (_:g 12=true) (e13:g 13=f 13) (e14:g 14=false) (e15:g 15=f 15):PqS w x y u v (W.heap.size,q.2) g (W.alloc (.cells #[St [],St []] 27)):=by
 have hb:zB W.heap.size W (W.alloc (.cells #[St [],St []] 27)):=(zM _ W).alloc (zN _) _
 refine⟨h.bel.trans (hb.mono h.bel.size),λ_=>h.bel.size,by rw[e13];exact h.lo2,λ_ k=>?_,λ_=>by rw[e14];exact zG _ _,λk=>?_⟩
 ·rw[e13] at k
  have:=(Array.getElem?_eq_some_iff.1 (h.b k)).1
  show W.heap.size≠q.2;omega
 ·rw[e13] at k
  rw[e15]
  exact(hb.block _ (Array.getElem?_eq_some_iff.1 (h.b k)).1).trans (h.b k)
theorem PqS.newB (h:PqS w x y u v q f W) (_:g 13=true) (e12:g 12=f 12) (e15:g 15=false) (e14:g 14=f 14):PqS w x y u v (q.1,W.heap.size) g (W.alloc (.cells #[St [],St []] 27)):=by
 have hb:zB W.heap.size W (W.alloc (.cells #[St [],St []] 27)):=(zM _ W).alloc (zN _) _
 refine⟨h.bel.trans (hb.mono h.bel.size),by rw[e12];exact h.lo1,λ_=>h.bel.size,λk _=>?_,λk=>?_,λ_=>by rw[e15];exact zG _ _⟩
 ·rw[e12] at k
  have:=(Array.getElem?_eq_some_iff.1 (h.a k)).1
  show q.1≠W.heap.size;omega
 ·rw[e12] at k
  rw[e14]
  exact(hb.block _ (Array.getElem?_eq_some_iff.1 (h.a k)).1).trans (h.a k)
theorem z7i (b:Bool) (x y:ByteArray) (s t:Value):((pqC b x y).setIfInBounds 0 s).setIfInBounds 1 t= #[s,t]:=by cases b<;>rfl
theorem PqS.putA (h:PqS w x y u v q f W) (k:f 12=true) (e12:g 12=f 12) (e13:g 13=f 13) (e14:g 14=true) (e15:g 15=f 15):PqS w x y u v q g ((W.setCell ⟨q.1,0,none⟩ (.string x)).setCell ⟨q.1,1,none⟩ (.string y)):=by
 have hl:=h.lo1 k
 refine⟨(h.bel.setCell (by simp;omega) _).setCell (by simp;omega) _,λ_=>hl,by rw[e13];exact h.lo2,by rw[e12,e13];exact h.ne,λ_=>?_,λk2=>?_⟩
 ·rw[zK (zK (h.a k) _),z7i,e14];rfl
 ·rw[e13] at k2
  have hn:=h.ne k k2
  rw[yE _ _ _ _ (by simp;omega),yE _ _ _ _ (by simp;omega),e15]
  exact h.b k2
theorem PqS.putB (h:PqS w x y u v q f W) (k:f 13=true) (e12:g 12=f 12) (e13:g 13=f 13) (e14:g 14=f 14) (e15:g 15=true):PqS w x y u v q g ((W.setCell ⟨q.2,0,none⟩ (.string u)).setCell ⟨q.2,1,none⟩ (.string v)):=by
 have hl:=h.lo2 k
 refine⟨(h.bel.setCell (by simp;omega) _).setCell (by simp;omega) _,by rw[e12];exact h.lo1,λ_=>hl,by rw[e12,e13];exact h.ne,λk2=>?_,λ_=>?_⟩
 ·rw[e12] at k2
  have hn:=h.ne k2 k
  rw[yE _ _ _ _ (by simp;omega),yE _ _ _ _ (by simp;omega),e14]
  exact h.a k2
 ·rw[zK (zK (h.b k) _),z7i,e15];rfl
theorem z6e {W:zA} {g:Nat} {b:Bool} {x y:ByteArray} {t:TypeId} (h:W.heap[g]? =some (.cells (pqC b x y) t (0,0))):(∃s,W.cell? ⟨g,0,none⟩=some s)/\(∃s,W.cell? ⟨g,1,none⟩=some s)/\W.frozen? ⟨g,0,none⟩=false/\W.frozen? ⟨g,1,none⟩=false:=by
 refine⟨⟨(pqC b x y)[0]?.getD undef,?_⟩,⟨(pqC b x y)[1]?.getD undef,?_⟩,by simp[World.frozen?,h],by simp[World.frozen?,h]⟩
 ·rw[zJ h];cases b<;>rfl
 ·rw[zJ h];cases b<;>rfl
end
def pqV (b off n c F F':Nat) (x y u v:ByteArray) (q:Nat×Nat) (k:Nat):Value:=
 ([.slice (some ⟨b,off,none⟩) n c,.int .i64 (F:Int),.pointer (some ⟨b,off+F*2,none⟩),.agg #[.string x,.string y],.slice (some ⟨b,off,none⟩) n c,.int .i64 (F:Int),.int .i64 ((F:Int)+1),.slice (some ⟨b,off,none⟩) n c,.int .i64 (n:Int),.int .i64 (F':Int),.pointer (some ⟨b,off+F'*2,none⟩),.agg #[.string u,.string v],.pointer (some ⟨q.1,0,none⟩),.pointer (some ⟨q.2,0,none⟩),undef,undef]:List Value).getD k undef
theorem z63 {W:zA} {B g c:Nat} {o:List Pt} (h:W.ownsRow B 27 2 (.slice (some ⟨g,0,none⟩) o.length c) o.length (z3k o)):RowPts (some ⟨g,0,none⟩) o W:=by
 intro i hi
 obtain⟨h1,h2⟩:=z47 h rfl hi
 have e:ptOf (txt o) i=(numS (cor o i).x,numS (cor o i).y):=by
  unfold ptOf txt
  rw[List.getElem?_map,List.getElem?_eq_getElem hi,z3r hi];rfl
 exact⟨g,0,rfl,by rw[e,Nat.zero_add];exact h1,by rw[e,Nat.zero_add];exact h2⟩
structure FouS (w:zA) (A:Nat) (vs:Nat->Option Addr×Nat×Nat) (os:Nat->List Pt) (W:zA):Prop where
 bel:zB w.heap.size w W
 ha:W.heap[A]? =some (.cells #[.slice (vs 0).1 (vs 0).2.1 (vs 0).2.2,.slice (vs 1).1 (vs 1).2.1 (vs 1).2.2,.slice (vs 2).1 (vs 2).2.1 (vs 2).2.2,.slice (vs 3).1 (vs 3).2.1 (vs 3).2.2] 22 (0,0))
 row:∀t,t<4->(vs t).2.1=(os t).length/\RowPts (vs t).1 (os t) W
section
variable {w W W':zA} {A:Nat} {vs:Nat->Option Addr×Nat×Nat} {os:Nat->List Pt}
theorem FouS.next (h:FouS w A vs os W) (hb:zB W.heap.size W W'):FouS w A vs os W':=
 ⟨h.bel.trans (hb.mono h.bel.size),(hb.block _ (Array.getElem?_eq_some_iff.1 h.ha).1).trans h.ha,λt ht=>let ⟨h1,h2⟩:=h.row t ht;⟨h1,h2.keep (zac hb)⟩⟩
theorem FouS.cell (h:FouS w A vs os W) {t:Nat} (ht:t<4):W.cell? ⟨A,t,none⟩=some (.slice (vs t).1 (vs t).2.1 (vs t).2.2):=by
 rw[zJ h.ha]
 match t,ht with
 |0,_|1,_|2,_|3,_=>rfl
end
structure SamQ (w:zA) (b off cap n i:Nat) (l:List (List UInt8×List UInt8)) (p':Option Addr) (cap' n':Nat) (m:List (List UInt8×List UInt8)) (F F':Nat) (x y u v:ByteArray) (sx sy mx my:List UInt8) (q:List Pt) (os:Nat->List Pt) (o1 o2:List Pt):Prop where
 CL:Hid (∀W:zA,RowTx (some ⟨b,off,none⟩) l W->W.cell? ⟨b,off+F*2,none⟩=some (.string x)/\W.cell? ⟨b,off+F*2+1,none⟩=some (.string y)/\W.cell? ⟨b,off+F'*2,none⟩=some (.string u)/\W.cell? ⟨b,off+F'*2+1,none⟩=some (.string v))
 RW:Hid (∀W:zA,RowTx (some ⟨b,off,none⟩) l W->RowPts (some ⟨b,off,none⟩) q W)
 AX:Hid (∀W:zA,Wd W->zC zF 6 #[.string x,.string u] W λe w'=>e=.returned (.tuple #[St sx,.int .i64 0])/\zB W.heap.size W w')
 AY:Hid (∀W:zA,Wd W->zC zF 6 #[.string y,.string v] W λe w'=>e=.returned (.tuple #[St sy,.int .i64 0])/\zB W.heap.size W w')
 DX:Hid (∀W:zA,Wd W->zC zF 7 #[St sx,.string ⟨#[50]⟩] W λe w'=>e=.returned (.tuple #[St mx,.int .i64 0])/\zB W.heap.size W w')
 DY:Hid (∀W:zA,Wd W->zC zF 7 #[St sy,.string ⟨#[50]⟩] W λe w'=>e=.returned (.tuple #[St my,.int .i64 0])/\zB W.heap.size W w')
 CN:Hid (∀W:zA,RowTx (some ⟨b,off,none⟩) l W->zC zF 9 #[.slice (some ⟨b,off,none⟩) n cap] W λe w'=>∃v,e=.returned v/\w'.ownsRow W.heap.size 27 2 v n (z3k q)/\zB W.heap.size W w')
 IN:Hid (∀(B g c:Nat) (W:zA),B<=W.heap.size->W.ownsRow B 27 2 (.slice (some ⟨g,0,none⟩) n c) n (z3k q)->
  zC zF 8 #[.slice (some ⟨g,0,none⟩) n c,.int .i64 ((F:Int)+1),.slice (some ⟨W.heap.size,0,none⟩) 1 1] (W.alloc (.cells #[St mx,St my] 27)) λe w'=>∃g' c',e=.returned (.slice (some ⟨g',0,none⟩) (os 2).length c')/\RowPts (some ⟨g',0,none⟩) (os 2) w'/\zB B W w')
 FR:Hid (∀W:zA,RowTx (some ⟨b,off,none⟩) l W->zC zF 10 #[.slice (some ⟨b,off,none⟩) n cap,.int .u8 (i:Int)] W λe w'=>∃g' c',e=.returned (.slice (some ⟨g',0,none⟩) (os 0).length c')/\RowPts (some ⟨g',0,none⟩) (os 0) w'/\zB W.heap.size W w')
 BK:Hid (∀W:zA,RowTx (some ⟨b,off,none⟩) l W->zC zF 11 #[.slice (some ⟨b,off,none⟩) n cap] W λe w'=>∃g' c',e=.returned (.slice (some ⟨g',0,none⟩) (os 1).length c')/\RowPts (some ⟨g',0,none⟩) (os 1) w'/\zB W.heap.size W w')
 SM:Hid (∀t,t<4->∀(p2:Option Addr) (c2:Nat) (W:zA),Wd W->RowTx (some ⟨b,off,none⟩) l W->RowPts p2 (os t) W->zC zF 12 #[.slice (some ⟨b,off,none⟩) n cap,.slice p2 (os t).length c2] W λe w'=>e=.returned (.tuple #[.bool true,.int .i64 0])/\zB W.heap.size W w')
 SL:Hid (∀W:zA,Wd W->RowTx (some ⟨b,off,none⟩) l W->RowTx p' m W->zC zF 12 #[.slice (some ⟨b,off,none⟩) n cap,.slice p' n' cap'] W λe w'=>e=.returned (.tuple #[.bool (decide (o1=o2)),.int .i64 0])/\zB W.heap.size W w')
 K1:Hid (∀W:zA,Wd W->RowTx (some ⟨b,off,none⟩) l W->zC zF 13 #[.slice (some ⟨b,off,none⟩) n cap] W λe w'=>∃v,e=.returned (.tuple #[v,.int .i64 0])/\w'.ownsRow W.heap.size 27 2 v o1.length (z3k o1)/\zB W.heap.size W w')
 K2:Hid (∀W:zA,Wd W->RowTx p' m W->zC zF 13 #[.slice p' n' cap'] W λe w'=>∃v,e=.returned (.tuple #[v,.int .i64 0])/\w'.ownsRow W.heap.size 27 2 v o2.length (z3k o2)/\zB W.heap.size W w')
 NN:Hid (3<=n/\n<=10/\F<n/\F'=(F+1)%n/\os 3=q/\q.length=n)
 ON:Hid (0<o1.length/\o1.length<=4096/\0<o2.length/\o2.length<=4096)
end
section
open Go.RowKit Go.Shelf Lib Str Limb Geo
attribute [local go_sem] Oper.semAt_some
theorem z64 (p p':Option Addr) (cap cap' n n' i kk F:Nat) (hkk:kk<256) (l m:List (List UInt8×List UInt8)) (G G2:Prop)
 (FI:Hid (∀W:zA,Wd W->RowTx p l W->zC zF 4 #[.slice p n cap] W (OnlyP W G)))
 (FJ:Hid (∀W:zA,Wd W->RowTx p' m W->zC zF 4 #[.slice p' n' cap'] W (OnlyP W G2)))
 (w:zA) (HW:Hid (Wd w)) (HP:Hid (RowTx p l w)) (HP':Hid (RowTx p' m w)) (AW:Hid (∀W:zA,zB w.heap.size w W->zC zF 5 #[] W λe w'=>e=.returned (.bool true)/\zB W.heap.size W w'))
 (HF:Hid (kk%n=F))
 (GD:Hid (G->G2->∃b off F' x y u v sx sy mx my qq os o1 o2,p=some ⟨b,off,none⟩/\SamQ w b off cap n i l p' cap' n' m F F' x y u v sx sy mx my qq os o1 o2)):
 zC zF 3 #[.slice p n cap,.slice p' n' cap',.int .u8 (i:Int),.int .u8 (kk:Int)] w λe w'=>e=.returned (.bool true)/\zB w.heap.size w w':=by
 have HFI:=hid (FI.out w HW.out HP.out)
 clear FI
 go_enter Tryz.func3,Tryz.ntmps3
 go_wp2_with fail
 refine HFI.out.mono ?_
 rintro e w2 ⟨t,rfl,ht,hB⟩
 have HB2:=hid hB
 have HT:=hid ht
 clear ht hB HFI
 cases t
 case false=>
  go_wp2_with fail
  refine(AW.out w2 HB2.out).mono ?_
  rintro e w3 ⟨rfl,hb3⟩
  have HB3:=hid (HB2.out.trans (hb3.mono HB2.out.size))
  clear hb3
  go_wp2_with fail
  go_ret
  exact⟨rfl,HB3.out⟩
 case true=>
  have HFJ:=hid (FJ.out w2 (HW.out.below HB2.out) (HP'.out.keep (zac HB2.out)))
  clear FJ
  go_wp2_with fail
  refine HFJ.out.mono ?_
  rintro e w3 ⟨t,rfl,ht2,hb3⟩
  have HB3:=hid (HB2.out.trans (hb3.mono HB2.out.size))
  have HT2:=hid ht2
  clear ht2 hb3 HB2 HFJ
  cases t
  case false=>
   go_wp2_with fail
   refine(AW.out w3 HB3.out).mono ?_
   rintro e w4 ⟨rfl,hb4⟩
   have HB4:=hid (HB3.out.trans (hb4.mono HB3.out.size))
   clear hb4
   go_wp2_with fail
   go_ret
   exact⟨rfl,HB4.out⟩
  case true=>
   obtain⟨b,off,F',x,y,u,v,sx,sy,mx,my,qq,os,o1,o2,rfl,CL,RW,AX,AY,DX,DY,CN,IN,FR,BK,SM,SL,K1,K2,NN,ON⟩:=GD.out (HT.out (by trivial)) (HT2.out (by trivial))
   clear GD HT HT2
   obtain⟨hn3,hn10,hFn,hF',hq3,hqn⟩:=NN.out
   have hcv:wrap64 (kk:Int)=(kk:Int):=by unfold wrap64;omega
   have hcv2:IntKind.i64.wrap (kk:Int)=(kk:Int):=zI _ ⟨by omega,by omega⟩
   have ht:(kk:Int).tmod (n:Int)=(F:Int):=by rw[Int.tmod_eq_emod_of_nonneg (by omega),<-HF.out];rfl
   have hn0:¬n=0:=by omega
   have hw1:IntKind.i64.wrap ((F:Int)+1)=(F:Int)+1:=zI _ ⟨by omega,by omega⟩
   have ht2:((F:Int)+1).tmod (n:Int)=(F':Int):=by rw[z44,<-hF']
   have hFn':F'<n:=by rw[hF'];exact Nat.mod_lt _ (by omega)
   have HQ:=hid (⟨hq3,hqn,hn3⟩:_/\_/\_)
   clear hF' hq3 hqn hn3 NN HF
   go_wp2_with fail
   try simp only[hcv,hcv2,ht]
   refine zc4 (pqV b off n cap F F' x y u v) (PqS w x y u v) (by kernel_rfl) (by kernel_rfl) (0,0) ⟨HB3.out.drew,λk=>(by cases k),λk=>(by cases k),λk=>(by cases k),λk=>(by cases k),λk=>(by cases k)⟩ λg2=>?_
   refine zag (.slice (some ⟨b,off,none⟩) n cap) (by rfl) (by rfl) (λf W' h=>h.congr rfl rfl rfl rfl) (λf W' hf h=>by go_simp) ?_
   try simp only[zzQ]
   refine zag (.int .i64 (F:Int)) (by rfl) (by rfl) (λf W' h=>h.congr rfl rfl rfl rfl) (λf W' hf h=>by go_simp) ?_
   try simp only[zzQ]
   refine zag (.pointer (some ⟨b,off+F*2,none⟩)) (by rfl) (by rfl) (λf W' h=>h.congr rfl rfl rfl rfl) (λf W' hf h=>by go_simp) ?_
   try simp only[zzQ]
   refine zag (.agg #[.string x,.string y]) (by rfl) (by rfl) (λf W' h=>h.congr rfl rfl rfl rfl) (λf W' hf h=>by
    obtain⟨c0,c1,_,_⟩:=CL.out W' (HP.out.keep (zac h.bel))
    go_simp) ?_
   try simp only[zzQ]
   refine zag (.slice (some ⟨b,off,none⟩) n cap) (by rfl) (by rfl) (λf W' h=>h.congr rfl rfl rfl rfl) (λf W' hf h=>by go_simp) ?_
   try simp only[zzQ]
   refine zag (.int .i64 (F:Int)) (by rfl) (by rfl) (λf W' h=>h.congr rfl rfl rfl rfl) (λf W' hf h=>by go_simp) ?_
   try simp only[zzQ]
   refine zag (.int .i64 ((F:Int)+1)) (by rfl) (by rfl) (λf W' h=>h.congr rfl rfl rfl rfl) (λf W' hf h=>by go_simp) ?_
   try simp only[zzQ]
   refine zag (.slice (some ⟨b,off,none⟩) n cap) (by rfl) (by rfl) (λf W' h=>h.congr rfl rfl rfl rfl) (λf W' hf h=>by go_simp) ?_
   try simp only[zzQ]
   refine zag (.int .i64 (n:Int)) (by rfl) (by rfl) (λf W' h=>h.congr rfl rfl rfl rfl) (λf W' hf h=>by go_simp) ?_
   try simp only[zzQ]
   refine zag (.int .i64 (F':Int)) (by rfl) (by rfl) (λf W' h=>h.congr rfl rfl rfl rfl) (λf W' hf h=>by go_simp) ?_
   try simp only[zzQ]
   refine zag (.pointer (some ⟨b,off+F'*2,none⟩)) (by rfl) (by rfl) (λf W' h=>h.congr rfl rfl rfl rfl) (λf W' hf h=>by go_simp) ?_
   try simp only[zzQ]
   refine zag (.agg #[.string u,.string v]) (by rfl) (by rfl) (λf W' h=>h.congr rfl rfl rfl rfl) (λf W' hf h=>by
    obtain⟨_,_,c0,c1⟩:=CL.out W' (HP.out.keep (zac h.bel))
    go_simp) ?_
   try simp only[zzQ]
   refine zdc (.pointer (some ⟨g2.1,0,none⟩)) (by rfl) (by rfl) (λf W' hf h C' hC'=>by
    have h12:=hf.self
    have h14:=hf.no (j:=14) hf.self (by kernel_rfl)
    have hj:∀j,f j=true->pqV b off n cap F F' x y u v (W'.heap.size,g2.2) j=pqV b off n cap F F' x y u v g2 j:=by
     intro j hj
     match j,hj with
     |0,_|1,_|2,_|3,_|4,_|5,_|6,_|7,_|8,_|9,_|10,_|11,_=>rfl
     |12,hj=>rw[h12] at hj;cases hj
     |13,_|14,_|15,_=>rfl
     |_+16,_=>rfl
    have hc:=hC' (W'.heap.size,g2.2) _ hj (h.newA rfl rfl h14 rfl)
    clear h hj hC'
    go_simp
    exact hc) ?_
   try simp only[zzQ]
   refine zdc (.pointer (some ⟨g2.2,0,none⟩)) (by rfl) (by rfl) (λf W' hf h C' hC'=>by
    have h13:=hf.self
    have h15:=hf.no (j:=15) hf.self (by kernel_rfl)
    have hj:∀j,f j=true->pqV b off n cap F F' x y u v (g2.1,W'.heap.size) j=pqV b off n cap F F' x y u v g2 j:=by
     intro j hj
     match j,hj with
     |0,_|1,_|2,_|3,_|4,_|5,_|6,_|7,_|8,_|9,_|10,_|11,_|12,_=>rfl
     |13,hj=>rw[h13] at hj;cases hj
     |14,_|15,_=>rfl
     |_+16,_=>rfl
    have hc:=hC' (g2.1,W'.heap.size) _ hj (h.newB rfl rfl h15 rfl)
    clear h hj hC'
    go_simp
    exact hc) ?_
   try simp only[zzQ]
   refine zbv undef (by rfl) (by rfl) (λf W' hf h C' hC'=>by
    have h12:=hf.done 12 (by kernel_rfl)
    obtain⟨⟨s0,c0⟩,⟨s1,c1⟩,z0,z1⟩:=z6e (h.a h12)
    have hc:=hC' _ (h.putA h12 rfl rfl rfl rfl)
    clear h hC'
    go_simp
    exact hc) ?_
   try simp only[zzQ]
   refine zbv undef (by rfl) (by rfl) (λf W' hf h C' hC'=>by
    have h13:=hf.done 13 (by kernel_rfl)
    obtain⟨⟨s0,c0⟩,⟨s1,c1⟩,z0,z1⟩:=z6e (h.b h13)
    have hc:=hC' _ (h.putB h13 rfl rfl rfl rfl)
    clear h hC'
    go_simp
    exact hc) ?_
   try simp only[zzQ]
   refine ze1 λf W4 hf h=>?_
   obtain⟨A1,A2⟩:=g2
   have ha:=h.a (hf 12 (by decide))
   have hb:=h.b (hf 13 (by decide))
   rw[hf 14 (by decide)] at ha
   rw[hf 15 (by decide)] at hb
   have HA:=hid (⟨h.bel,ha,hb⟩:zB w.heap.size w W4/\W4.heap[A1]? =some (.cells #[.string x,.string y] 27 (0,0))/\W4.heap[A2]? =some (.cells #[.string u,.string v] 27 (0,0)))
   clear h ha hb hf HB3
   have a0:W4.cell? ⟨A1,0,none⟩=some (.string x):=by have:=HA.out.2.1;simp[World.cell?,this]
   have b0:W4.cell? ⟨A2,0,none⟩=some (.string u):=by have:=HA.out.2.2;simp[World.cell?,this]
   go_wp2_with fail
   refine(AX.out W4 (HW.out.below HA.out.1)).mono ?_
   rintro e w5 ⟨rfl,hb5⟩
   have HA5:=hid (⟨HA.out.1.trans (hb5.mono HA.out.1.size),(hb5.block _ (Array.getElem?_eq_some_iff.1 HA.out.2.1).1).trans HA.out.2.1,(hb5.block _ (Array.getElem?_eq_some_iff.1 HA.out.2.2).1).trans HA.out.2.2⟩:zB w.heap.size w w5/\w5.heap[A1]? =some (.cells #[.string x,.string y] 27 (0,0))/\w5.heap[A2]? =some (.cells #[.string u,.string v] 27 (0,0)))
   clear hb5 HA a0 b0 AX
   have a1:w5.cell? ⟨A1,1,none⟩=some (.string y):=by have:=HA5.out.2.1;simp[World.cell?,this]
   have b1:w5.cell? ⟨A2,1,none⟩=some (.string v):=by have:=HA5.out.2.2;simp[World.cell?,this]
   have HB5:=hid HA5.out.1
   clear HA5
   go_wp2_with fail
   refine(AY.out w5 (HW.out.below HB5.out)).mono ?_
   rintro e w6 ⟨rfl,hb6⟩
   have HB6:=hid (HB5.out.trans (hb6.mono HB5.out.size))
   clear hb6 HB5 a1 b1 AY
   go_wp2_with fail
   refine(DX.out w6 (HW.out.below HB6.out)).mono ?_
   rintro e w7 ⟨rfl,hb7⟩
   have HB7:=hid (HB6.out.trans (hb7.mono HB6.out.size))
   clear hb7 HB6 DX
   go_wp2_with fail
   refine(DY.out w7 (HW.out.below HB7.out)).mono ?_
   rintro e w8 ⟨rfl,hb8⟩
   have HB8:=hid (HB7.out.trans (hb8.mono HB7.out.size))
   clear hb8 HB7 DY
   go_wp2_with fail
   refine(CN.out w8 (HP.out.keep (zac HB8.out))).mono ?_
   rintro e w9 ⟨r9,rfl,ho9,hb9⟩
   obtain⟨g9,c9,rfl,_,_⟩:=z30 ho9 (by omega)
   have HI:=hid (IN.out w8.heap.size g9 c9 w9 hb9.size ho9)
   have HB9:=hid (⟨HB8.out.trans (hb9.mono HB8.out.size),HB8.out.size⟩:zB w.heap.size w w9/\w.heap.size<=w8.heap.size)
   clear hb9 ho9 HB8 CN IN
   generalize w8.heap.size=B8 at*
   go_wp2_with fail
   refine HI.out.mono ?_
   rintro e w10 ⟨g3,c3,rfl,hr3,hb10⟩
   have HB10:=hid (HB9.out.1.trans (hb10.mono HB9.out.2))
   have HR3:=hid hr3
   clear hr3 hb10 HB9 HI
   go_wp2_with fail
   refine(FR.out w10 (HP.out.keep (zac HB10.out))).mono ?_
   rintro e w11 ⟨g1,c1,rfl,hr1,hb11⟩
   have HB11:=hid (HB10.out.trans (hb11.mono HB10.out.size))
   have HR:=hid (⟨hr1,HR3.out.keep (zac hb11)⟩:RowPts (some ⟨g1,0,none⟩) (os 0) w11/\RowPts (some ⟨g3,0,none⟩) (os 2) w11)
   clear hr1 hb11 HB10 HR3 FR
   go_wp2_with fail
   refine(BK.out w11 (HP.out.keep (zac HB11.out))).mono ?_
   rintro e w12 ⟨g4,c4,rfl,hr4,hb12⟩
   have HB12:=hid (HB11.out.trans (hb12.mono HB11.out.size))
   have HR2:=hid (⟨HR.out.1.keep (zac hb12),hr4,HR.out.2.keep (zac hb12)⟩:RowPts (some ⟨g1,0,none⟩) (os 0) w12/\RowPts (some ⟨g4,0,none⟩) (os 1) w12/\RowPts (some ⟨g3,0,none⟩) (os 2) w12)
   clear hr4 hb12 HB11 HR BK
   obtain⟨vs,hvs⟩:∃vs:Nat->Option Addr×Nat×Nat,vs= λt=>[(some ⟨g1,0,none⟩,(os 0).length,c1),(some ⟨g4,0,none⟩,(os 1).length,c4),(some ⟨g3,0,none⟩,(os 2).length,c3),(some ⟨b,off,none⟩,n,cap)].getD t (none,0,0):=⟨_,rfl⟩
   have hS:FouS w w12.heap.size vs os (w12.alloc (.cells #[.slice (some ⟨g1,0,none⟩) (os 0).length c1,.slice (some ⟨g4,0,none⟩) (os 1).length c4,.slice (some ⟨g3,0,none⟩) (os 2).length c3,.slice (some ⟨b,off,none⟩) n cap] 22)):=by
    have hb:zB w12.heap.size w12 (w12.alloc (.cells #[.slice (some ⟨g1,0,none⟩) (os 0).length c1,.slice (some ⟨g4,0,none⟩) (os 1).length c4,.slice (some ⟨g3,0,none⟩) (os 2).length c3,.slice (some ⟨b,off,none⟩) n cap] 22)):=(zM _ w12).alloc (zN _) _
    have hl:=HB12.out.trans (hb.mono HB12.out.size)
    refine⟨hl,by rw[hvs];exact zG _ _,λt ht=>?_⟩
    obtain⟨r0,r1,r2⟩:=HR2.out
    rw[hvs]
    match t,ht with
    |0,_=>exact⟨rfl,r0.keep (zac hb)⟩
    |1,_=>exact⟨rfl,r1.keep (zac hb)⟩
    |2,_=>exact⟨rfl,r2.keep (zac hb)⟩
    |3,_=>exact⟨by rw[HQ.out.1,HQ.out.2.1];rfl,by rw[HQ.out.1];exact RW.out _ (HP.out.keep (zac hl))⟩
   have HS:=hid hS
   clear hS HB12 HR2 hvs
   generalize (os 0).length=n0 at*
   generalize (os 1).length=n1 at*
   generalize (os 2).length=n2 at*
   go_wp2_with fail
   obtain⟨WL,hWL⟩:∃WL,WL=w12.alloc (.cells #[.slice (some ⟨g1,0,none⟩) n0 c1,.slice (some ⟨g4,0,none⟩) n1 c4,.slice (some ⟨g3,0,none⟩) n2 c3,.slice (some ⟨b,off,none⟩) n cap] 22):=⟨_,rfl⟩
   rw[<-hWL] at HS⊢
   clear hWL
   generalize w12.heap.size=A at*
   go_loopw [113] (λj wr=>∃(k:Nat),k<=4/\j=.int .i64 (k:Int)/\Hid (FouS w A vs os wr))
    (λj _=>4-(RowKit.intOf j).toNat)
   case atStart=>exact⟨0,Nat.zero_le _,rfl,HS⟩
   case round=>
    obtain⟨k,hk,rfl,hS⟩:=hrel
    clear HS
    by_cases hlt:k<4
    ·have ck:=hS.out.cell hlt
     obtain⟨hl1,hl2⟩:=hS.out.row k hlt
     obtain⟨pt,ln,ct,ev⟩:∃pt ln ct,vs k=(pt,ln,ct):=⟨_,_,_,rfl⟩
     rw[ev] at ck hl1 hl2
     simp only at ck hl1 hl2
     have HM:=hid (SM.out k hlt pt ct wr (HW.out.below hS.out.bel) (HP.out.keep (zac hS.out.bel)) hl2)
     rw[<-hl1] at HM
     have hwk:IntKind.i64.wrap ((k:Int)+1)=(k:Int)+1:=zI _ ⟨by omega,by omega⟩
     clear hl1 hl2 ev
     go_wp2_with fail
     refine HM.out.mono ?_
     rintro e w14 ⟨rfl,hb14⟩
     have HS':=hid (hS.out.next hb14)
     clear hb14 hS HM ck
     go_wp2_with fail
     go_roundw
     case rel=>exact⟨k+1,by omega,by first|go_num|rfl,HS'⟩
     case measure=>simp[RowKit.intOf];omega
    ·obtain rfl:k=4:=by omega
     have HB14:=hid hS.out.bel
     clear hS hlt hk
     go_wp2_with fail
     refine(SL.out wr (HW.out.below HB14.out) (HP.out.keep (zac HB14.out)) (HP'.out.keep (zac HB14.out))).mono ?_
     rintro e w15 ⟨rfl,hb15⟩
     have HB15:=hid (HB14.out.trans (hb15.mono HB14.out.size))
     clear hb15 HB14 SL SM
     obtain⟨d,hd⟩:∃d,d=decide (o1=o2):=⟨_,rfl⟩
     rw[<-hd]
     have HD:=hid hd
     clear hd
     go_wp2_with fail
     refine(K1.out w15 (HW.out.below HB15.out) (HP.out.keep (zac HB15.out))).mono ?_
     rintro e w16 ⟨r1,rfl,ho1,hb16⟩
     obtain⟨h1,d1,rfl,_,hc1⟩:=z4s ho1 ON.out.1
     have HB16:=hid (HB15.out.trans (hb16.mono HB15.out.size))
     have HC1:=hid hc1
     clear hb16 HB15 ho1 hc1 K1
     go_wp2_with fail
     refine(K2.out w16 (HW.out.below HB16.out) (HP'.out.keep (zac HB16.out))).mono ?_
     rintro e w17 ⟨r2,rfl,ho2,hb17⟩
     obtain⟨h2,d2,rfl,_,hc2⟩:=z4s ho2 ON.out.2.2.1
     have HE:=hid (z5s h1 d1 h2 d2 o1 o2 ON.out.1 ON.out.2.1 ON.out.2.2.1 ON.out.2.2.2 w17 (hid λW hb k=>HC1.out W (hb17.trans (hb.mono hb17.size)) k) (hid hc2))
     unfold EqP at HE
     rw[<-HD.out] at HE
     have HB17:=hid (HB16.out.trans (hb17.mono HB16.out.size))
     clear hb17 HB16 ho2 hc2 K2 HC1
     generalize o1.length=a1 at*
     generalize o2.length=a2 at*
     go_wp2_with fail
     refine HE.out.mono ?_
     rintro e w18 ⟨rfl,hb18⟩
     have HB18:=hid (HB17.out.trans (hb18.mono HB17.out.size))
     clear hb18 HB17 HE
     have hdd:(d==d)=true:=by simp
     go_wp2_with fail
     refine(AW.out w18 HB18.out).mono ?_
     rintro e w19 ⟨rfl,hb19⟩
     have HB19:=hid (HB18.out.trans (hb19.mono HB18.out.size))
     clear hb19 HB18
     go_wp2_with fail
     go_ret
     exact⟨rfl,HB19.out⟩
end
section
open Go.RowKit Go.Shelf Lib Str Limb Geo
theorem z3w {p:Option Addr} {q:List Pt} {W:zA} (h:RowTx p (txt q) W):RowPts p q W:=λi hi=>h i (by rw[za2];exact hi)
theorem z7j {l:List Pt} {k:Nat} (hk:k<l.length):(z36 l k).length=l.length+1:=by unfold z36;simp;omega
def z56 (q:List Pt) (i F:Nat) (t:Nat):List Pt:=[q.drop (i%q.length)++q.take (i%q.length),q.reverse,z36 q F,q].getD t q
theorem z5x {W:zA} {B:Nat} {v:Value} {n:Nat} {o:List Pt} (h:W.ownsRow B 27 2 v n (z3k o)) (hn:o.length=n) (h0:0<n):∃g c,v=.slice (some ⟨g,0,none⟩) o.length c/\RowPts (some ⟨g,0,none⟩) o W:=by
 subst hn
 obtain⟨g,c,rfl,_⟩:=z30 h h0
 exact⟨g,c,rfl,z63 h⟩
theorem z55 {q:List Pt} (h3:3<=q.length) (h10:q.length<=10) (h:z3q q):0<(z3p q).length/\(z3p q).length<=4096:=by
 have k0:=List.length_pos_iff.2 (z34 h3 h)
 have k1:=z4h _ k0
 have k2:=z5f q
 have e:(z3p q).length=(z3n q).length:=k1
 omega
theorem z73 (p:Option Addr) (cap:Nat) (l:List (List UInt8×List UInt8)) (p':Option Addr) (cap':Nat) (m:List (List UInt8×List UInt8)) (i k:Nat) (hi:i<256) (hk:k<256)
 (w:zA) (AW:Hid (∀W:zA,zB w.heap.size w W->zC zF 5 #[] W λe w'=>e=.returned (.bool true)/\zB W.heap.size W w')) (hw:Wd w) (hp:RowTx p l w) (hp':RowTx p' m w) (hcap:l.length<=cap):
 zC zF 3 #[.slice p l.length cap,.slice p' m.length cap',.int .u8 (i:Int),.int .u8 (k:Int)] w λe w'=>e=.returned (.bool true)/\zB w.heap.size w w':=by
 refine z64 p p' cap cap' l.length m.length i k (k%l.length) hk l m (zqn l/\3<=l.length/\l.length<=10) (zqn m/\3<=m.length/\m.length<=10) (hid λW hW hr=>z0q p cap l W hW hr) (hid λW hW hr=>z0q p' cap' m W hW hr) w (hid hw) (hid hp) (hid hp') AW (hid rfl) (hid ?_)
 rintro⟨⟨q,rfl,hz,hs,hm⟩,h3,h10⟩ ⟨⟨r,rfl,hz',hs',hm'⟩,h3',h10'⟩
 rw[za2] at h3 h10 h3' h10' hcap
 simp only[za2]
 have hP:z3q q:=⟨hs,hm⟩
 have hP':z3q r:=⟨hs',hm'⟩
 obtain⟨b,off,rfl,_⟩:=z4j (z3w hp) (by omega)
 have hF:k%q.length<q.length:=Nat.mod_lt _ (by omega)
 generalize k%q.length=F at*
 have hc:∀i,szP (cor q i) 12:=z49 hz (by omega)
 have h36:∀a∈q,szP a 36:=λa ha=>⟨(hz a ha).1.mono (by omega),(hz a ha).2.mono (by omega)⟩
 have h36':∀a∈r,szP a 36:=λa ha=>⟨(hz' a ha).1.mono (by omega),(hz' a ha).2.mono (by omega)⟩
 have hal:∀t,t<4->z5r q (z56 q i F t):=λt ht=>by
  match t,ht with
  |0,_=>exact z6x h3 hP hz _
  |1,_=>exact z6y h3 hP hz
  |2,_=>exact z6z h3 hP hz hF
  |3,_=>exact z6w h3 hP hz
 refine⟨b,off,(F+1)%q.length,⟨(numS (cor q F).x).toArray⟩,⟨(numS (cor q F).y).toArray⟩,⟨(numS (cor q (F+1)).x).toArray⟩,⟨(numS (cor q (F+1)).y).toArray⟩,
  numS ((cor q F).x+(cor q (F+1)).x),numS ((cor q F).y+(cor q (F+1)).y),numS (midP (cor q F) (cor q (F+1))).x,numS (midP (cor q F) (cor q (F+1))).y,q,z56 q i F,z3p q,z3p r,rfl,?_⟩
 have two:(.string ⟨#[50]⟩:Value)=St (numS 2):=by rw[zzk]
 constructor
 ·refine hid λW hr=>?_
  obtain⟨b1,o1,e1,c1,c2⟩:=zhi (z3w hr) F (by omega)
  obtain⟨b2,o2,e2,c3,c4⟩:=zhi (z3w hr) (F+1) (by omega)
  obtain⟨rfl,rfl⟩:b=b1/\off=o1:=by simpa using e1
  obtain⟨rfl,rfl⟩:b=b2/\off=o2:=by simpa using e2
  rw[Nat.mod_eq_of_lt hF] at c1 c2
  exact⟨c1,c2,c3,c4⟩
 ·exact hid λW hr=>z3w hr
 ·exact hid λW hW=>zje _ _ 12 12 (by omega) (by omega) (by omega) (hc _).1 (hc _).1 W hW
 ·exact hid λW hW=>zje _ _ 12 12 (by omega) (by omega) (by omega) (hc _).2 (hc _).2 W hW
 ·refine hid λW hW=>?_
  rw[two]
  exact zoj _ 2 (by decide) 25 1 (by omega) (by omega) (by omega) (zk0 (hc F).1 (hc (F+1)).1) zw8 W hW
 ·refine hid λW hW=>?_
  rw[two]
  exact zoj _ 2 (by decide) 25 1 (by omega) (by omega) (by omega) (zk0 (hc F).2 (hc (F+1)).2) zw8 W hW
 ·refine hid λW hr=>?_
  obtain⟨b1,o1,e1,hcc⟩:=z4j (z3w hr) (by omega)
  obtain⟨rfl,rfl⟩:b=b1/\off=o1:=by simpa using e1
  exact z5u b off cap q.length q rfl (by omega) W (hid λW' hb=>z5c (hcc W' hb))
 ·refine hid λB g c W hB ho=>?_
  have hlt:=(ho.lt g rfl).2
  have hnc:q.length<=c:=by
   rcases ho.2 with⟨e,_⟩|⟨g',cp,cur,e,_,_,h,_⟩
   ·cases e
   ·cases e;exact h
  have hal2:zB W.heap.size W (W.alloc (.cells #[St (numS (midP (cor q F) (cor q (F+1))).x),St (numS (midP (cor q F) (cor q (F+1))).y)] 27)):=(zM _ W).alloc (zN _) _
  have e1:((F:Int)+1)=((F+1:Nat):Int):=by omega
  rw[e1]
  refine(z7h B g c q.length (F+1) W.heap.size q (midP (cor q F) (cor q (F+1))) rfl (by omega) (by omega) (by omega) hnc _ (by omega) (ho.alloc _) (zG _ _) (Nat.le_trans hB hal2.size)).mono ?_
  rintro e w' ⟨v,rfl,h1,h2⟩
  obtain⟨g',c',rfl,hr⟩:=z5x (o:=z36 q F) h1 (z7j hF) (by omega)
  exact⟨g',c',rfl,hr,((zM B W).alloc hB _).trans h2⟩
 ·refine hid λW hr=>?_
  refine(z8g _ cap q (by omega) (by omega) hcap i hi W (z3w hr)).mono ?_
  rintro e w' ⟨v,rfl,h1,h2⟩
  obtain⟨g',c',rfl,hr⟩:=z5x h1 (by simp;omega) (by omega)
  exact⟨g',c',rfl,hr,h2⟩
 ·refine hid λW hr=>?_
  refine(z8f _ cap q (by omega) (by omega) W (z3w hr)).mono ?_
  rintro e w' ⟨v,rfl,h1,h2⟩
  obtain⟨g',c',rfl,hr⟩:=z5x h1 (by simp) (by omega)
  exact⟨g',c',rfl,hr,h2⟩
 ·refine hid λt ht p2 c2 W hW hr h2=>?_
  obtain⟨a1,a2,a3,a4,a5⟩:=hal t ht
  have:=z6n _ cap q p2 c2 (z56 q i F t) h3 (by omega) h36 hP a4 (by omega) (λa ha=>⟨(a3 a ha).1.mono (by omega),(a3 a ha).2.mono (by omega)⟩) a1 W hW (z3w hr) h2
  rw[show decide (z3p q=z3p (z56 q i F t))=true from decide_eq_true a2.symm] at this
  exact this
 ·exact hid λW hW hr hr'=>z6n _ cap q p' cap' r h3 (by omega) h36 hP h3' (by omega) h36' hP' W hW (z3w hr) (z3w hr')
 ·exact hid λW hW hr=>z5b _ cap q h3 (by omega) h36 hP W hW (z3w hr)
 ·exact hid λW hW hr=>z5b p' cap' r h3' (by omega) h36' hP' W hW (z3w hr)
 ·exact hid ⟨h3,h10,hF,rfl,rfl,rfl⟩
 ·have k1:=z55 h3 h10 hP
  have k2:=z55 h3' h10' hP'
  exact hid ⟨k1.1,k1.2,k2.1,k2.2⟩
end
end Go.Proofs.YtlaccnphhomdgaaGreatDoor
