/- kingpostlaw10.short, and what it calls. -/
import Derived.Test.YthfpmfdiamldoaaGreatDoorF25
import Derived.Maps.AppendAt
set_option maxRecDepth 100000
set_option maxHeartbeats 8000000
open Go renaming World → zA, Calls → zC
open Go.RowKit renaming Below → zB, intOf → zL
open Go.Proofs.Tryz renaming prog → zF
open Go.World renaming alloc_heap_new → zG, size_alloc → zH
open Go.IntWalk renaming i64_in → zI
open Go.Joins renaming cell_of_block → zJ
open Go.RowKit.Below renaming refl → zM
open Nat renaming le_refl → zN, mod_lt → zP, mod_eq_of_lt → zQ, zero_le → zR
open List renaming length_append → zU, getElem?_eq_getElem → yB
namespace Go.Proofs.YthfpmfdiamldoaaGreatDoor
section
open Go.RowKit Go.Shelf Lib Str Limb Geo
attribute [local go_sem] Oper.semAt_some
def zlu (x:List UInt8×List UInt8):Prop:=x.1.length<=12/\x.2.length<=12/\okS x.1/\okS x.2
def BoolP (w:zA) (G:Prop) (e:Ending) (w':zA):Prop:=∃b:Bool,e=.returned (.bool b)/\(b=false↔G)/\zB w.heap.size w w'
theorem BoolP.no {w w':zA} {G:Prop} (h:¬G) (hb:zB w.heap.size w w'):BoolP w G (.returned (.bool true)) w':=⟨true,rfl,⟨λk=>by simp at k,λk=>absurd k h⟩,hb⟩
theorem BoolP.yes {w w':zA} {G:Prop} (h:G) (hb:zB w.heap.size w w'):BoolP w G (.returned (.bool false)) w':=⟨false,rfl,⟨λ_=>h,λ_=>rfl⟩,hb⟩
theorem z01 (l:List UInt8):(upS l).length<=l.length/\(dnS l).length<=l.length:=by
 have hb:(bare l).length<=l.length:=by
  rcases zhb l with⟨_,h⟩|⟨_,h⟩
  ·have:=congrArg List.length h;simp at this;omega
  ·rw[<-h];exact zN _
 constructor
 ·exact Nat.le_trans (List.takeWhile_sublist _).length_le hb
 ·unfold dnS
  have:=(List.dropWhile_sublist (p:=(· !=(47:UInt8))) (l:=bare l)).length_le
  simp;omega
theorem zlk (l:List UInt8) (h:l.length<=12) (w:zA) (hw:Wd w):
 zC zF 57 #[St l] w λe w'=>∃r:Int,e=.returned (.int .i64 r)/\(r=0↔okS l)/\zB w.heap.size w w':=
 zvb l (by have:=(z01 l).1;omega) (by have:=(z01 l).2;omega) (by omega) w hw
theorem ztm (x y:ByteArray) (Q1 Q2:Prop)
 (C1:Hid (x.size<=12->∀W:zA,Wd W->zC zF 57 #[.string x] W λe w'=>∃r:Int,e=.returned (.int .i64 r)/\(r=0↔Q1)/\zB W.heap.size W w'))
 (C2:Hid (y.size<=12->∀W:zA,Wd W->zC zF 57 #[.string y] W λe w'=>∃r:Int,e=.returned (.int .i64 r)/\(r=0↔Q2)/\zB W.heap.size W w'))
 (w:zA) (HW:Hid (Wd w)):
 zC zF 96 #[.agg #[.string x,.string y]] w (BoolP w (x.size<=12/\y.size<=12/\Q1/\Q2)):=by
 obtain⟨W1,hW1⟩:∃W1,W1=w.alloc (.cells #[.string x,.string y] 25):=⟨_,rfl⟩
 have hb1:zB w.heap.size w W1:=by rw[hW1];exact(zM _ w).alloc (zN _) _
 have A:W1.heap[w.heap.size]? =some (.cells #[.string x,.string y] 25 (0,0)):=by rw[hW1];exact zG w _
 have a0:W1.cell? ⟨w.heap.size,0,none⟩=some (.string x):=by rw[zJ A];rfl
 have a1:W1.cell? ⟨w.heap.size,1,none⟩=some (.string y):=by rw[zJ A];rfl
 have i0:=a0;have i1:=a1
 rw[hW1] at i0 i1
 have HB:=hid hb1
 have HW1:=hid hW1
 have HA:=hid (⟨a0,a1⟩:W1.cell? ⟨w.heap.size,0,none⟩=some (.string x)/\W1.cell? ⟨w.heap.size,1,none⟩=some (.string y))
 clear hb1 A hW1 a0 a1
 by_cases h1:(12:Int)<x.size
 ·have HN:=hid (λh=>by omega:¬(x.size<=12/\y.size<=12/\Q1/\Q2))
  go_enter Tryz.func96,Tryz.ntmps96
  go_wp2_with fail
  go_ret
  exact BoolP.no HN.out (by rw[<-HW1.out];exact HB.out)
 ·by_cases h2:(12:Int)<y.size
  ·have HN:=hid (λh=>by omega:¬(x.size<=12/\y.size<=12/\Q1/\Q2))
   go_enter Tryz.func96,Tryz.ntmps96
   go_wp2_with fail
   go_ret
   exact BoolP.no HN.out (by rw[<-HW1.out];exact HB.out)
  ·have c1:=C1.out (by omega) W1 (HW.out.below HB.out)
   have H1:=hid c1;clear c1
   have C3:=hid (C2.out (by omega))
   have hq:(x.size<=12/\y.size<=12/\Q1/\Q2)↔Q1/\Q2:=⟨λh=>h.2.2,λh=>⟨by omega,by omega,h⟩⟩
   rw[hq]
   clear hq
   go_enter Tryz.func96,Tryz.ntmps96
   go_wp2_with fail
   rw[<-HW1.out]
   refine H1.out.mono ?_
   rintro e w2 ⟨r,rfl,hr,hb2⟩
   have HR:=hid hr
   have hB2:=HB.out.trans (hb2.mono HB.out.size)
   have g0:=(zac hb2).cell HA.out.1;have g1:=(zac hb2).cell HA.out.2
   clear hr hb2 i0 i1
   by_cases h0:r=0
   ·have hrb:(r !=0)=false:=by subst h0;rfl
    have HR0:=hid (HR.out.1 h0)
    clear h0
    go_wp2_with fail
    refine(C3.out w2 (HW.out.below hB2)).mono ?_
    rintro e w3 ⟨r3,rfl,hr3,hb3⟩
    have hB3:=hB2.trans (hb3.mono hB2.size)
    by_cases h3:r3=0
    ·have hrb3:(r3 !=0)=false:=by subst h3;rfl
     have HR3:=hid (hr3.1 h3)
     clear h3 hr3 hb3
     go_wp2_with fail
     go_ret
     exact BoolP.yes ⟨HR0.out,HR3.out⟩ hB3
    ·have hrb3:(r3 !=0)=true:=by simpa using h3
     have HR3:=hid (λh=>h3 (hr3.2 h):¬Q2)
     clear h3 hr3 hb3
     go_wp2_with fail
     go_ret
     exact BoolP.no (λh=>HR3.out h.2) hB3
   ·have hrb:(r !=0)=true:=by simpa using h0
    have HR0:=hid (λh=>h0 (HR.out.2 h):¬Q1)
    clear h0
    go_wp2_with fail
    go_ret
    exact BoolP.no (λh=>HR0.out h.1) hB2
theorem zyc (x:List UInt8×List UInt8) (w:zA) (hw:Wd w):
 zC zF 96 #[.agg #[St x.1,St x.2]] w (BoolP w (zlu x)):=by
 have sz:∀k:List UInt8,(⟨k.toArray⟩:ByteArray).size=k.length:=λk=>by show k.toArray.size=_;simp
 have:=ztm ⟨x.1.toArray⟩ ⟨x.2.toArray⟩ (okS x.1) (okS x.2) (hid λh W hW=>zlk x.1 (by rw[sz] at h;exact h) W hW) (hid λh W hW=>zlk x.2 (by rw[sz] at h;exact h) W hW) w (hid hw)
 rw[sz,sz] at this
 exact this
def RowTx (p:Option Addr) (l:List (List UInt8×List UInt8)) (W:zA):Prop:=
 ∀i,i<l.length->∃b off,p=some ⟨b,off,none⟩/\W.cell? ⟨b,off+i*2,none⟩=some (St (ptOf l i).1)/\W.cell? ⟨b,off+i*2+1,none⟩=some (St (ptOf l i).2)
theorem RowTx.keep {p:Option Addr} {l:List (List UInt8×List UInt8)} {W W':zA} (h:RowTx p l W) (hc:CellsKept W W'):RowTx p l W':=λi hi=>let ⟨b,off,e,h1,h2⟩:=h i hi;⟨b,off,e,hc.cell h1,hc.cell h2⟩
def IdxP (w:zA) (n:Nat) (G:Nat->Prop) (e:Ending) (w':zA):Prop:=∃k:Int,e=.returned (.int .i64 k)/\((k= -1/\∀i,i<n->G i)\/(0<=k/\∃i,i<n/\¬G i))/\zB w.heap.size w w'
theorem IdxP.hit {w w':zA} {n:Nat} {G:Nat->Prop} {k:Nat} (hk:k<n) (h:¬G k) (hb:zB w.heap.size w w'):IdxP w n G (.returned (.int .i64 (k:Int))) w':=⟨k,rfl,.inr ⟨by omega,k,hk,h⟩,hb⟩
theorem IdxP.none {w w':zA} {n:Nat} {G:Nat->Prop} (h:∀i,i<n->G i) (hb:zB w.heap.size w w'):IdxP w n G (.returned (.int .i64 (-1))) w':=⟨-1,rfl,.inl ⟨rfl,h⟩,hb⟩
theorem zvt (p:Option Addr) (cap n:Nat) (l:List (List UInt8×List UInt8)) (hn:n=l.length) (hl:n<=5000) (G:Nat->Prop)
 (F:Hid (∀i,i<n->∀W:zA,Wd W->zC zF 96 #[.agg #[St (ptOf l i).1,St (ptOf l i).2]] W (BoolP W (G i))))
 (w:zA) (HW:Hid (Wd w)) (HP:Hid (RowTx p l w)):
 zC zF 151 #[.slice p n cap,.func (.func 96) #[] #[]] w (IdxP w n G):=by
 have HN:=hid hn;clear hn
 go_enter Tryz.func151,Tryz.ntmps151
 go_wp2
 go_loopw [8] (λi wr=>∃(k:Nat),k<=n/\i=.int .i64 (k:Int)/\Hid (∀i,i<k->G i)/\Hid (zB w.heap.size w wr))
  (λi _=>n-(zL i).toNat)
 case atStart=>exact⟨0,zR _,rfl,λi h=>by omega,zM _ _⟩
 case round=>
  obtain⟨k,hk,rfl,hG,hB⟩:=hrel
  by_cases hlt:k<n
  ·obtain⟨b,off,rfl,c0,c1⟩:=(HP.out.keep (zac hB.out)) k (by rw[<-HN.out];exact hlt)
   have HF:=hid (F.out k hlt wr (HW.out.below hB.out))
   generalize (ptOf l k).1=x at*
   generalize (ptOf l k).2=y at*
   go_wp2_with fail
   refine HF.out.mono ?_
   rintro e w2 ⟨t,rfl,ht,hb2⟩
   have hB2:=hid (hB.out.trans (hb2.mono hB.out.size))
   have HT:=hid ht;clear ht hb2 HF
   cases t
   ·go_wp2_with fail
    go_roundw
    case rel=>exact⟨k+1,by omega,by go_num,λi hi=>(by
     by_cases e:i=k
     ·subst e;exact HT.out.1 (by trivial)
     ·exact hG.out i (by omega)),hB2⟩
    case measure=>simp[zL];omega
   ·go_wp2_with fail
    go_ret
    exact IdxP.hit hlt (λh=>by have:=HT.out.2 h;simp at this) hB2.out
  ·have hkn:k=n:=by omega
   have HK:=hid hkn;clear hkn
   go_wp2_with fail
   go_ret
   exact IdxP.none (by rw[<-HK.out];exact hG.out) hB.out
theorem zqk (p:Option Addr) (cap n:Nat) (G:Nat->Prop) (w:zA)
 (F:Hid (zC zF 151 #[.slice p n cap,.func (.func 96) #[] #[]] w (IdxP w n G))):
 zC zF 95 #[.slice p n cap,.func (.func 96) #[] #[]] w (BoolP w (∀i,i<n->G i)):=by
 go_enter Tryz.func95,Tryz.ntmps95
 go_wp2_with fail
 refine F.out.mono ?_
 rintro e w1 ⟨k,rfl,hk,hB⟩
 rcases hk with⟨rfl,h⟩|⟨h0,i,hi,h⟩
 ·have HN:=hid h;clear h
  go_wp2_with fail
  go_ret
  exact BoolP.yes HN.out hB
 ·have HN:=hid (λh'=>h (h' i hi):¬ ∀i,i<n->G i);clear h
  go_wp2_with fail
  go_ret
  exact BoolP.no HN.out hB
def YesP (w:zA) (G:Prop) (e:Ending) (w':zA):Prop:=∃b:Bool,e=.returned (.bool b)/\(b=true↔G)/\zB w.heap.size w w'
theorem YesP.no {w w':zA} {G:Prop} (h:¬G) (hb:zB w.heap.size w w'):YesP w G (.returned (.bool false)) w':=⟨false,rfl,⟨λk=>by simp at k,λk=>absurd k h⟩,hb⟩
theorem YesP.yes {w w':zA} {G:Prop} (h:G) (hb:zB w.heap.size w w'):YesP w G (.returned (.bool true)) w':=⟨true,rfl,⟨λ_=>h,λ_=>rfl⟩,hb⟩
theorem zvu (p:Option Addr) (cap n:Nat) (G:Prop) (w:zA)
 (F:Hid (zC zF 95 #[.slice p n cap,.func (.func 96) #[] #[]] w (BoolP w G))):
 zC zF 45 #[.slice p n cap] w (YesP w G):=by
 go_enter Tryz.func45,Tryz.ntmps45
 go_wp2_with fail
 refine F.out.mono ?_
 rintro e w1 ⟨b,rfl,hb,hB⟩
 have HN:=hid hb;clear hb
 cases b
 ·go_wp2_with fail
  go_ret
  exact YesP.yes (HN.out.1 (by trivial)) hB
 ·go_wp2_with fail
  go_ret
  exact YesP.no (λh=>by have:=HN.out.2 h;simp at this) hB
theorem zm5 (p:Option Addr) (cap:Nat) (l:List (List UInt8×List UInt8)) (hl:l.length<=5000) (w:zA) (hw:Wd w) (hp:RowTx p l w):
 zC zF 45 #[.slice p l.length cap] w (YesP w (∀i,i<l.length->zlu (ptOf l i))):=
 zvu p cap l.length _ w (hid (zqk p cap l.length _ w (hid (zvt p cap l.length l rfl hl (λi=>zlu (ptOf l i)) (hid λi _ W hW=>zyc (ptOf l i) W hW) w (hid hw) (hid hp)))))
def OnlyP (w:zA) (P:Prop) (e:Ending) (w':zA):Prop:=∃b:Bool,e=.returned (.bool b)/\(b=true->P)/\zB w.heap.size w w'
theorem OnlyP.no {w w':zA} {P:Prop} (hb:zB w.heap.size w w'):OnlyP w P (.returned (.bool false)) w':=⟨false,rfl,λh=>(by cases h),hb⟩
theorem OnlyP.yes {w w':zA} {P:Prop} (h:P) (hb:zB w.heap.size w w'):OnlyP w P (.returned (.bool true)) w':=⟨true,rfl,λ_=>h,hb⟩
theorem zpm (p:Option Addr) (cap n:Nat) (hn:decide ((n:Int)<=10)=true) (G H:Prop) (w:zA)
 (S:Hid (zC zF 45 #[.slice p n cap] w (YesP w G)))
 (C:Hid (G->∀W:zA,zB w.heap.size w W->zC zF 36 #[.slice p n cap] W λe w'=>∃r:Int,e=.returned (.int .i64 r)/\(r=0->H)/\zB W.heap.size W w')):
 zC zF 14 #[.slice p n cap] w (OnlyP w H):=by
 go_enter Tryz.func14,Tryz.ntmps14
 go_wp2_with fail
 refine S.out.mono ?_
 rintro e w1 ⟨b,rfl,hb,hB⟩
 have HB:=hid hB;clear hB
 have HN:=hid hb;clear hb
 cases b
 ·go_wp2_with fail
  go_ret
  exact OnlyP.no HB.out
 ·have HC:=hid (C.out (HN.out.1 rfl) w1 HB.out)
  clear C HN
  go_wp2_with fail
  refine HC.out.mono ?_
  rintro e w2 ⟨r,rfl,hr,hb2⟩
  have HB2:=qT HB hb2;clear hb2
  have HR:=hid hr;clear hr
  by_cases h0:r=0
  ·have hrb:(r==0)=true:=by subst h0;rfl
   have HR0:=hid (HR.out h0)
   clear h0
   go_wp2_with fail
   go_ret
   exact OnlyP.yes HR0.out HB2.out
  ·have hrb:(r==0)=false:=by simpa using h0
   clear h0
   go_wp2_with fail
   go_ret
   exact OnlyP.no HB2.out
theorem zuf {P:Pt->Prop} {q:List Pt} (h:∀p∈q,P p) (h0:P ⟨0,0⟩) (i:Nat):P (cor q i):=by
 unfold cor
 cases e:q[i%q.length]? with
 |none=>exact h0
 |some p=>exact h p (List.mem_of_getElem? e)
theorem zv0 (p:Option Addr) (cap n:Nat) (h:n<3) (w:zA):
 zC zF 36 #[.slice p n cap] w λe w'=>∃r:Int,e=.returned (.int .i64 r)/\(r=0->False)/\zB w.heap.size w w':=by
 have hn1:decide ((4096:Int)<(n:Int))=false:=decide_eq_false (by omega)
 have hn2:decide ((n:Int)<3)=true:=decide_eq_true (by omega)
 clear h
 go_enter Tryz.func36,Tryz.ntmps36
 go_wp2
 go_ret
 exact⟨_,rfl,by decide,zM _ _⟩
theorem zyk (p:Option Addr) (cap n:Nat) (h:10<n) (G:Prop) (w:zA):
 zC zF 14 #[.slice p n cap] w (OnlyP w G):=by
 have hn:decide ((n:Int)<=10)=false:=decide_eq_false (by omega)
 clear h
 go_enter Tryz.func14,Tryz.ntmps14
 go_wp2_with fail
 go_ret
 exact OnlyP.no (zM _ _)
end
section
open Go.RowKit Go.Shelf Lib Str Limb Geo
theorem z8z {q:Rat} (h:(numS q).length<=12):q.den<10^10:=by
 by_cases h1:q.den=1
 ·rw[h1];decide
 ·rw[zid h1] at h
  simp at h
  have:=zbr q.num
  have h2:=zbn q.num
  exact(zaf _ 10 (by omega)).1 (by omega)
theorem z80:∀(l:List (List UInt8×List UInt8)),(∀i,i<l.length->zlu (ptOf l i))->∃q:List Pt,l=txt q/\∀p∈q,szC p
 |[],_=>⟨[],rfl,λp h=>by cases h⟩
 |x::r,h=>by
  obtain⟨q,hq,hz⟩:=z80 r (λi hi=>h (i+1) (by simpa using hi))
  obtain⟨h1,h2,h3,h4⟩:zlu x:=h 0 (by simp)
  obtain⟨a,ha⟩:=(zlq _).1 h3
  obtain⟨b,hb⟩:=(zlq _).1 h4
  rw[ha] at h1;rw[hb] at h2
  refine⟨⟨a,b⟩::q,?_,λp hp=>?_⟩
  ·rw[hq];show x::txt q=(numS a,numS b)::txt q;rw[<-ha,<-hb]
  ·rcases List.mem_cons.1 hp with rfl|hp
   ·exact⟨⟨zih (by omega) h1,zih (by omega) h2⟩,z8z h1,z8z h2⟩
   ·exact hz p hp
def yc0 (l:List (List UInt8×List UInt8)):Prop:=∃q:List Pt,l=txt q/\(∀p∈q,szC p)/\z3q q/\3<=q.length/\q.length<=10
theorem yda (p:Option Addr) (cap:Nat) (l:List (List UInt8×List UInt8)) (w:zA) (hw:Wd w) (hp:RowTx p l w):
 zC zF 14 #[.slice p l.length cap] w (OnlyP w (yc0 l)):=by
 by_cases h10:l.length<=10
 ·by_cases h3:3<=l.length
  ·refine zpm p cap l.length (decide_eq_true (by omega)) _ _ w (hid (zm5 p cap l (by omega) w hw hp)) (hid λhg W hb=>?_)
   obtain⟨q,rfl,hz⟩:=z80 l hg
   have hz36:∀i,szP (cor q i) 36:=λi=>zuf (P:=λp=>szP p 36) (λp hp=>⟨(hz p hp).1.1.mono (by omega),(hz p hp).1.2.mono (by omega)⟩) ⟨zjb _ (by omega),zjb _ (by omega)⟩ i
   rw[za2] at h3 h10⊢
   refine(zyb p cap q h3 (by omega) hz36 W (hw.below hb) ?_).mono ?_
   ·intro i hi
    exact(hp.keep (zac hb)) i (by rw[za2];exact hi)
   ·rintro e w' ⟨r,rfl,hr,hb'⟩
    exact⟨r,rfl,λh=>⟨q,rfl,hz,hr.1 h,h3,h10⟩,hb'⟩
  ·exact zpm p cap l.length (decide_eq_true (by omega)) _ _ w (hid (zm5 p cap l (by omega) w hw hp)) (hid λ_ W _=>(zv0 p cap l.length (by omega) W).mono λe w' ⟨r,h1,h2,h3⟩=>⟨r,h1,λh=>(h2 h).elim,h3⟩)
 ·exact zyk p cap l.length (by omega) _ w
theorem z9p (p:Option Addr) (cap:Nat) (l:List Pt) (h3:3<=l.length) (h10:l.length<=10) (hz:∀q∈l,szC q) (h:z3q l) (w:zA) (hw:Wd w) (hp:RowPts p l w):
 qJ 16 #[.slice p l.length cap] w (.tuple #[St (numS (zbj l/2)),.int .i64 0]):=by
 have hc:∀i,szP (cor l i) 12:=λi=>by
  rw[<-zt4,z3r (zP _ (by omega))]
  exact(hz _ (List.getElem_mem _)).1
 have e:psum (zbh l) l.length=zbj l:=by
  have:∀n,psum (zbh l) n=sumK (λk=>(cor l k).x*(cor l (k+1)).y-(cor l (k+1)).x*(cor l k).y) n:=λn=>by
   induction n with
   |zero=>rfl
   |succ n ih=>show psum (zbh l) n+zbh l n=_+_;rw[ih];rfl
  exact this _
 have:=zt5 p cap l h3 (by omega) (λi=>⟨(hc i).1.mono (by omega),(hc i).2.mono (by omega)⟩) h.1 h.2
  (λk hk=>⟨226,49,by omega,by omega,by omega,ya6 h3 h10 hz (by omega),zb0 (zca (hc _).1 (hc _).2) (zca (hc _).1 (hc _).2)⟩) 226 (by omega) (by omega) (ya6 h3 h10 hz (zN _)) w hw hp
 rw[e] at this
 exact this
theorem zvx {x:Rat} (h:0<=x):0<=x.num:=Rat.num_nonneg.2 h
theorem yb7 {x:Rat} (h:0<=x):(numS x).head? ≠some 45/\numS x≠[]:=by
 rw[zq8 (zvx h)]
 obtain⟨c,r,hd⟩:=List.exists_cons_of_ne_nil (zci x.num.natAbs)
 have hc1:=((zh9 x.num.natAbs).2.1 c (by rw[hd];exact List.mem_cons_self)).1
 rw[hd]
 refine⟨λk=>?_,by simp⟩
 simp at k
 rw[k] at hc1
 exact absurd hc1 (by decide)
theorem ybg {x:Rat} (h:0<x):numS (-x)=45::numS x:=by
 have h0:0<x.num:=by
  have h1:=zvx (Rat.le_of_lt h)
  have h2:x.num≠0:=λk=>by rw[Rat.num_eq_zero.1 k] at h;grind
  omega
 have hn:(-x).num.natAbs=x.num.natAbs:=by rw[Rat.neg_num,Int.natAbs_neg]
 have hd:(-x).den=x.den:=Rat.neg_den x
 rw[zq8 (q:=x) (by omega),zq9 (q:= -x) (by rw[Rat.neg_num];omega),hn,hd]
theorem ybh {A C:Rat} (hp:0<=C) (hc:C=A\/C= -A):
 ((numS (A/2)).head? =some 45->(numS (A/2)).tail=numS (C/2))/\((numS (A/2)).head? ≠some 45->numS (A/2)=numS (C/2))/\(numS (C/2)).head? ≠some 45/\numS (C/2)≠[]/\numS (A/2)≠[]:=by
 have hC:0<=C/2:=by grind
 obtain⟨c1,c2⟩:=yb7 hC
 by_cases hA:A<0
 ·have e:C= -A:=by rcases hc with k|k;exact absurd hA (by grind);exact k
  have e2:A/2= -(C/2):=by rw[e];grind
  rw[e2,ybg (by rw[e];grind)]
  exact⟨λ_=>rfl,λk=>absurd rfl k,c1,c2,by simp⟩
 ·have e:A=C:=by rcases hc with k|k;exact k.symm;grind
  rw[e]
  exact⟨λk=>absurd k c1,λ_=>rfl,c1,c2,c2⟩
theorem ycl {a b q:Pt} (h:turn a b q≠0):meet a b q q=0:=by
 unfold meet
 have hp:¬turn a b q*turn a b q<=0:=by
  rcases znm a b q with t|t|t
  ·rw[t];decide
  ·exact absurd t h
  ·rw[t];decide
 rw[if_pos (.inl h),if_neg (λk=>hp k.1)]
section
variable {q c:List Pt}
theorem CanP.side (h:CanP q c) (i:Nat):meet (cor c (i+c.length-1)) (cor c (i+1)) (cor c i) (cor c i)=0:=by
 refine ycl λk=>h.flat i ?_
 rw[zgy] at k⊢
 have:cr (cor c (i+c.length-1)) (cor c i) (cor c (i+1))= -cr (cor c (i+c.length-1)) (cor c (i+1)) (cor c i):=by unfold cr;grind
 rw[this,k];grind
theorem CanP.first (h:CanP q c) {i:Nat} (hi:i<c.length):cmpR (cor c 0).x (cor c i).x<=0/\(cmpR (cor c 0).x (cor c i).x=0->0<i->cmpR (cor c 0).y (cor c i).y<0):=by
 have hl:=h.least i hi
 unfold le at hl
 have k:=zas (cor c 0) (cor c i)
 have c1:=zaw (cor c 0).x (cor c i).x
 have c2:=zaw (cor c 0).y (cor c i).y
 refine⟨by grind,λe h0=>?_⟩
 have hne:=z58 h.len h.poly h0 hi
 grind
theorem CanP.short (h:CanP q c) (hz:∀p∈q,szC p):∀p∈c,szC p:=λp hp=>hz p (h.mem p hp)
theorem CanP.at_mem (h:CanP q c) {i:Nat} (hi:i<c.length):∃j,j<q.length/\cor q j=cor c i:=by
 have hm:=h.mem (cor c i) (by rw[z3r hi];exact List.getElem_mem _)
 obtain⟨j,hj,e⟩:=List.getElem_of_mem hm
 exact⟨j,hj,by rw[z3r hj];exact e⟩
end
end
section
open Go.RowKit Go.Shelf Lib Str Limb Geo
attribute [local go_sem] Oper.semAt_some
theorem z7x {p q:Pt} (h:numS p.x=numS q.x/\numS p.y=numS q.y):p=q:=by
 obtain⟨a,b⟩:=p;obtain⟨c,d⟩:=q
 have e1:a=c:=zh0 h.1
 have e2:b=d:=zh0 h.2
 rw[e1,e2]
theorem z6k {x y:List Pt} (hl:x.length=y.length) (h:∀i,i<x.length->cor x i=cor y i):x=y:=by
 apply List.ext_getElem hl
 intro i h1 h2
 have:=h i h1
 unfold cor at this
 rwa [zQ h1,zQ h2,yB h1,yB h2] at this
def EqP (w:zA) (x y:List Pt) (e:Ending) (w':zA):Prop:=e=.returned (.bool (decide (x=y)))/\zB w.heap.size w w'
theorem EqP.no {w w':zA} {x y:List Pt} (h:x≠y) (hb:zB w.heap.size w w'):EqP w x y (.returned (.bool false)) w':=⟨by rw[decide_eq_false h],hb⟩
theorem EqP.yes {w w':zA} {x y:List Pt} (h:x=y) (hb:zB w.heap.size w w'):EqP w x y (.returned (.bool true)) w':=⟨by rw[decide_eq_true h],hb⟩
theorem z5s (ga ca gb cb:Nat) (x y:List Pt) (h0:0<x.length) (hx:x.length<=4096) (_:0<y.length) (_:y.length<=4096) (w:zA)
 (HA:Hid (∀W:zA,zB w.heap.size w W->∀k,W.cell? ⟨ga,k%x.length*2,none⟩=some (St (numS (cor x k).x))/\W.cell? ⟨ga,k%x.length*2+1,none⟩=some (St (numS (cor x k).y))))
 (HB:Hid (∀W:zA,zB w.heap.size w W->∀k,W.cell? ⟨gb,k%y.length*2,none⟩=some (St (numS (cor y k).x))/\W.cell? ⟨gb,k%y.length*2+1,none⟩=some (St (numS (cor y k).y)))):
 zC zF 17 #[.slice (some ⟨ga,0,none⟩) x.length ca,.slice (some ⟨gb,0,none⟩) y.length cb] w (EqP w x y):=by
 by_cases hl:x.length=y.length
 ·obtain⟨n,hn⟩:∃n,n=x.length:=⟨_,rfl⟩
  rw[<-hl] at HB⊢
  rw[<-hn] at h0 hx HA HB⊢
  have HN:=hid (⟨hn,hl⟩:n=x.length/\x.length=y.length);clear hn hl
  go_enter Tryz.func17,Tryz.ntmps17
  go_wp2_with fail
  go_loopw [13] (λi wr=>∃(k:Nat),k<=n/\i=.int .i64 (k:Int)/\Hid (zB w.heap.size w wr)/\Hid (∀i,i<k->cor x i=cor y i))
   (λi _=>n-(zL i).toNat)
  case atStart=>exact⟨0,zR _,rfl,zM _ _,λi h=>absurd h (by omega)⟩
  case round=>
   obtain⟨k,hk,rfl,hB,hS⟩:=hrel
   by_cases hlt:k<n
   ·obtain⟨c0,c1⟩:=HA.out wr hB.out k
    obtain⟨d0,d1⟩:=HB.out wr hB.out k
    rw[zQ hlt] at c0 c1 d0 d1
    have HSM:Hid (numS (cor x k).x=numS (cor y k).x/\numS (cor x k).y=numS (cor y k).y->cor x k=cor y k):=hid z7x
    have HDF:Hid (cor x k=cor y k->numS (cor x k).x=numS (cor y k).x/\numS (cor x k).y=numS (cor y k).y):=hid λe=>by rw[e];exact⟨rfl,rfl⟩
    have HQ:=hid λm=>hB.out.trans ((zao (zM _ wr) m).mono hB.out.size)
    generalize numS (cor x k).x=ax at*
    generalize numS (cor x k).y=ay at*
    generalize numS (cor y k).x=bx at*
    generalize numS (cor y k).y=by' at*
    by_cases hxx:ax=bx
    ·by_cases hyy:ay=by'
     ·subst hxx;subst hyy
      have HE:=hid (HSM.out ⟨rfl,rfl⟩)
      go_wp2_with fail
      go_quiet (fail)
      go_wp2_with fail
      go_roundw
      case rel=>exact⟨k+1,by omega,by go_num,hid (HQ.out _),λi hi=>(by
       by_cases e:i=k
       ·subst e;exact HE.out
       ·exact hS.out i (by omega))⟩
      case measure=>simp[zL];omega
     ·have HE:=hid (λe=>hyy (HDF.out e).2:cor x k≠cor y k)
      subst hxx
      go_wp2_with fail
      go_quiet (fail)
      go_wp2_with fail
      go_ret
      exact EqP.no (λe=>HE.out (by rw[e])) (HQ.out _)
    ·have HE:=hid (λe=>hxx (HDF.out e).1:cor x k≠cor y k)
     go_wp2_with fail
     go_quiet (fail)
     go_wp2_with fail
     go_ret
     exact EqP.no (λe=>HE.out (by rw[e])) (HQ.out _)
   ·obtain rfl:n=k:=by omega
    have HE:=hid (z6k HN.out.2 (λi hi=>hS.out i (by rw[HN.out.1];exact hi)))
    clear hS
    go_wp2_with fail
    go_ret
    exact EqP.yes HE.out hB.out
 ·have hli:((x.length:Int) !=(y.length:Int))=true:=by simpa using λe:(x.length:Int)=y.length=>hl (by omega)
  have HE:=hid (λe=>hl (by rw[e]):x≠y)
  clear hl HA HB
  generalize x.length=n at*
  generalize y.length=m at*
  go_enter Tryz.func17,Tryz.ntmps17
  go_wp2_with fail
  go_ret
  exact EqP.no HE.out (zM _ _)
theorem TurnS.start (w:zA) (x1 y1 x2 y2 x3 y3:List UInt8):TurnS w x1 y1 x2 y2 x3 y3 (((w.alloc (.cells #[St x1,St y1] 25)).alloc (.cells #[St x2,St y2] 25)).alloc (.cells #[St x3,St y3] 25)):=by
 have e1:=zG w (.cells #[St x1,St y1] 25 (0,0))
 have e2:=zG (w.alloc (.cells #[St x1,St y1] 25)) (.cells #[St x2,St y2] 25 (0,0))
 have e3:=zG ((w.alloc (.cells #[St x1,St y1] 25)).alloc (.cells #[St x2,St y2] 25)) (.cells #[St x3,St y3] 25 (0,0))
 simp only[zH] at e2 e3
 refine⟨(((zM _ w).alloc (zN _) _).alloc (by simp) _).alloc (by simp;omega) _,by simp,?_,?_,e3⟩
 ·exact(Below.heap_alloc _ _ _ (by simp only[zH];omega)).trans ((Below.heap_alloc _ _ _ (by simp only[zH];omega)).trans e1)
 ·exact(Below.heap_alloc _ _ _ (by simp only[zH];omega)).trans e2
theorem z69 (x1 y1 x2 y2 x3 y3:List UInt8) (n:Int) (fl:Bool) (hfl:(n==0)=fl)
 (T:Hid (qK 35 #[.agg #[St x1,St y1],.agg #[St x2,St y2],.agg #[St x3,St y3]] (.int .i64 n)))
 (w:zA) (HW:Hid (Wd w)):
 qJ 91 #[.agg #[St x1,St y1],.agg #[St x2,St y2],.agg #[St x3,St y3]] w (.bool fl):=by
 obtain⟨W3,hW3⟩:∃W3,W3=((w.alloc (.cells #[St x1,St y1] 25)).alloc (.cells #[St x2,St y2] 25)).alloc (.cells #[St x3,St y3] 25):=⟨_,rfl⟩
 have HI:=hid (TurnS.start w x1 y1 x2 y2 x3 y3)
 rw[<-hW3] at HI
 have HT:=hid (T.out W3 (HW.out.below HI.out.bel))
 have a0:=HI.out.a0;have a1:=HI.out.a1;have b0:=HI.out.b0;have b1:=HI.out.b1;have c0:=HI.out.c0;have c1:=HI.out.c1
 rw[hW3] at HT a0 a1 b0 b1 c0 c1
 have HW3:=hid hW3;clear hW3 T
 go_enter Tryz.func91,Tryz.ntmps91
 go_wp2_with fail
 refine HT.out.mono ?_
 rintro e w1 ⟨rfl,hb1⟩
 have HB:=hid (HI.out.bel.trans ((show zB W3.heap.size W3 w1 by rw[HW3.out];exact hb1).mono HI.out.bel.size))
 clear hb1 a0 a1 b0 b1 c0 c1 HI HW3 W3
 go_wp2_with fail
 go_ret
 exact⟨rfl,HB.out⟩
theorem z8d (l:List Pt) (k:Nat) (hz:∀i,szP (cor l i) 36) (w:zA) (hw:Wd w):
 qJ 91 #[ptV (cor l (k+l.length-1)),ptV (cor l k),ptV (cor l (k+1))] w (.bool (z3m l k)):=
 z69 _ _ _ _ _ _ (turn (cor l (k+l.length-1)) (cor l k) (cor l (k+1))) _ (by unfold z3m;cases h:decide (turn (cor l (k+l.length-1)) (cor l k) (cor l (k+1))=0)<;>simpa using h) (hid λW hW=>zjg _ _ _ 36 (by omega) (by omega) (hz _) (hz _) (hz _) W hW) w (hid hw)
def z3k:List Pt->List Value
 |[]=>[]
 |p::r=>St (numS p.x)::St (numS p.y)::z3k r
theorem z39:∀(l m:List Pt),z3k (l++m)=z3k l++z3k m
 |[],m=>rfl
 |a::r,m=>by show St (numS a.x)::St (numS a.y)::z3k (r++m)=_;rw[z39 r m];rfl
theorem z3v:∀l:List Pt,(z3k l).length=l.length*2
 |[]=>rfl
 |a::r=>by show(z3k r).length+1+1=_;rw[z3v r,List.length_cons];omega
theorem z4u:(Tryz.prog.info? 25).map (λi=>(i.zero,i.size,i.bytes))=some (some (.agg #[St [],St []]),2,32):=by kernel_rfl
theorem z3z {w:zA} {base:Nat} {e:TypeId} {s:Nat} {v:Value} {n:Nat} {xs:List Value} (h:w.ownsRow base e s v n xs):∃q c,v=.slice q n c:=by
 rcases h.2 with⟨rfl,rfl⟩|⟨g,cap,cur,rfl,_⟩
 ·exact⟨none,0,rfl⟩
 ·exact⟨_,_,rfl⟩
theorem z7w (W:zA) (x y:Value) (t:TypeId):∀i u,[x,y][i]? =some u->(W.alloc (.cells #[x,y] t)).cell? ((⟨W.heap.size,0,none⟩:Addr).add i)=some u:=λi u hu=>by
 have A:=zG W (.cells #[x,y] t)
 have:((⟨W.heap.size,0,none⟩:Addr).add i)=⟨W.heap.size,i,none⟩:=by simp only[Addr.add,Nat.zero_add];split<;>simp_all
 rw[this,zJ A]
 match i,hu with
 |0,hu=>exact hu
 |1,hu=>exact hu
theorem z4n (x y:List UInt8):∀u∈[St x,St y],u.oneCell'=true:=λu hu=>by
 simp at hu;rcases hu with rfl|rfl<;>rfl
structure WoutS (w:zA) (v:Value) (acc:List Pt) (A:Nat) (x y:List UInt8) (W:zA):Prop where
 bel:zB w.heap.size w W
 own:W.ownsRow w.heap.size 25 2 v acc.length (z3k acc)
 bx:W.heap[A]? =some (.cells #[St x,St y] 25 (0,0))
theorem WoutS.next {w:zA} {v:Value} {acc:List Pt} {A:Nat} {x y:List UInt8} {W W':zA} (h:WoutS w v acc A x y W) (hb:zB W.heap.size W W'):WoutS w v acc A x y W':=
 ⟨h.bel.trans (hb.mono h.bel.size),zcj (zac hb) h.own,(hb.block _ (Array.getElem?_eq_some_iff.1 h.bx).1).trans h.bx⟩
theorem WoutS.cx {w:zA} {v:Value} {acc:List Pt} {A:Nat} {x y:List UInt8} {W:zA} (h:WoutS w v acc A x y W):W.cell? ⟨A,0,none⟩=some (St x)/\W.cell? ⟨A,1,none⟩=some (St y):=by have:=h.bx;simp[World.cell?,this]
theorem z44 (k n:Nat):(((k:Int)+1).tmod (n:Int))=(((k+1)%n:Nat):Int):=by
 rw[show(k:Int)+1=((k+1:Nat):Int) by omega,Int.tmod_eq_emod_of_nonneg (by omega)];rfl
theorem z5z {k n:Nat} (hn:0<n):((k:Int)+n-1).tmod n=(((k+n-1)%n:Nat):Int):=by
 rw[show(k:Int)+n-1=((k+n-1:Nat):Int) by omega]
 rw[Int.tmod_eq_emod_of_nonneg (by omega)];rfl
theorem z6b (b off cap:Nat) (l:List Pt) (h3:3<=l.length) (hlen:l.length<=4096)
 (F:Hid (∀k,qK 91 #[ptV (cor l (k+l.length-1)),ptV (cor l k),ptV (cor l (k+1))] (.bool (z3m l k))))
 (w:zA) (HW:Hid (Wd w)) (HC:Hid (∀W:zA,zB w.heap.size w W->∀k,W.cell? ⟨b,off+k%l.length*2,none⟩=some (St (numS (cor l k).x))/\W.cell? ⟨b,off+k%l.length*2+1,none⟩=some (St (numS (cor l k).y)))):
 zC zF 90 #[.slice (some ⟨b,off,none⟩) l.length cap,.func (.func 91) #[] #[]] w λe w'=>∃v,e=.returned v/\w'.ownsRow w.heap.size 25 2 v (z3n l).length (z3k (z3n l))/\zB w.heap.size w w':=by
 obtain⟨n,hn⟩:∃n,n=l.length:=⟨_,rfl⟩
 rw[<-hn] at h3 hlen HC⊢
 have HN:=hid hn;clear hn
 go_enter Tryz.func90,Tryz.ntmps90
 go_wp2
 go_loopw [10,5] (λi v wr=>∃(k:Nat) (q:Option Addr) (c:Nat),k<=n/\i=.int .i64 (k:Int)/\v=.slice q (z3o l k).length c/\Hid (zB w.heap.size w wr)/\Hid (wr.ownsRow w.heap.size 25 2 (.slice q (z3o l k).length c) (z3o l k).length (z3k (z3o l k))))
  (λi _ _=>n-(zL i).toNat)
 case atStart=>exact⟨0,none,0,zR _,rfl,rfl,zM _ _,World.ownsRow_nil _ _ _ _⟩
 case round=>
  obtain⟨k,q,c,hk,rfl,rfl,hB,hO⟩:=hrel
  by_cases hlt:k<n
  ·have hcs:=HC.out
   have HCi:=hid λW h=>hcs W h (k+n-1)
   have HCj:=hid λW h=>hcs W h k
   have HCk:=hid λW h=>hcs W h (k+1)
   obtain⟨c0,c1⟩:=HCj.out wr hB.out
   rw[zQ hlt] at c0 c1
   clear hcs HCj
   have hF:=F.out k
   unfold ptV at hF
   rw[<-HN.out] at hF
   have HF:=hid hF;clear hF
   have ht:=z5z (k:=k) (n:=n) (by omega)
   have ht2:=z44 k n
   have hn0:¬n=0:=by omega
   have hw1:IntKind.i64.wrap ((k:Int)+n)=(k:Int)+n:=zI _ ⟨by omega,by omega⟩
   have hw2:IntKind.i64.wrap ((k:Int)+n-1)=(k:Int)+n-1:=zI _ ⟨by omega,by omega⟩
   have hw3:IntKind.i64.wrap ((k:Int)+1)=(k:Int)+1:=zI _ ⟨by omega,by omega⟩
   have hk1:(k+n-1)%n<n:=zP _ (by omega)
   have hk2:(k+1)%n<n:=zP _ (by omega)
   obtain⟨fl,hfl⟩:∃fl,z3m l k=fl:=⟨_,rfl⟩
   have HFL:=hid hfl
   rw[hfl] at HF
   clear hfl
   generalize (k+n-1)%n=i' at*
   generalize (k+1)%n=k' at*
   generalize hxj:numS (cor l k).x=xj at c0 HF
   generalize hyj:numS (cor l k).y=yj at c1 HF
   generalize numS (cor l (k+n-1)).x=xi at HCi HF
   generalize numS (cor l (k+n-1)).y=yi at HCi HF
   generalize numS (cor l (k+1)).x=xk at HCk HF
   generalize numS (cor l (k+1)).y=yk at HCk HF
   have HXY:=hid (⟨hxj,hyj⟩:numS (cor l k).x=xj/\numS (cor l k).y=yj);clear hxj hyj
   have HS:Hid (WoutS w (.slice q (z3o l k).length c) (z3o l k) wr.heap.size xj yj (wr.alloc (.cells #[St xj,St yj] 25))):=hid (by
    have hal:zB wr.heap.size wr (wr.alloc (.cells #[St xj,St yj] 25)):=(zM _ wr).alloc (zN _) _
    exact⟨hB.out.trans (hal.mono hB.out.size),zcj (zac hal) hO.out,zG _ _⟩)
   go_wp2_with fail
   clear hB hO c0 c1
   obtain⟨W1,hW1⟩:∃W1,W1=wr.alloc (.cells #[St xj,St yj] 25):=⟨_,rfl⟩
   rw[<-hW1] at HS
   try rw[show wr.alloc (.cells #[.string ⟨xj.toArray⟩,.string ⟨yj.toArray⟩] 25)=W1 from hW1.symm]
   clear hW1
   generalize wr.heap.size=A at*
   refine zbl (λ_ W=>WoutS w (.slice q (z3o l k).length c) (z3o l k) A xj yj W) (by kernel_rfl) (by kernel_rfl) (HS.out.next (zM _ _).drew) ?_
   refine qR (.func (.func 91) #[] #[]) ?_
   try simp only[zzQ]
   refine qR (.slice (some ⟨b,off,none⟩) n cap) ?_
   try simp only[zzQ]
   refine qR (.int .i64 (k:Int)) ?_
   try simp only[zzQ]
   refine qR (.slice (some ⟨b,off,none⟩) n cap) ?_
   try simp only[zzQ]
   refine qR (.int .i64 (n:Int)) ?_
   try simp only[zzQ]
   refine qR (.int .i64 ((k:Int)+n)) ?_
   try simp only[zzQ]
   refine qR (.int .i64 ((k:Int)+n-1)) ?_
   try simp only[zzQ]
   refine qR (.slice (some ⟨b,off,none⟩) n cap) ?_
   try simp only[zzQ]
   refine qR (.int .i64 (n:Int)) ?_
   try simp only[zzQ]
   refine qR (.int .i64 (i':Int)) ?_
   try simp only[zzQ]
   refine qR (.pointer (some ⟨b,off+i'*2,none⟩)) ?_
   try simp only[zzQ]
   refine qR (.agg #[St xi,St yi]) ?_ (hy:=λf W' hf h=>by obtain⟨c0,c1⟩:=HCi.out _ h.bel;go_simp)
   try simp only[zzQ]
   refine qR (.agg #[St xj,St yj]) ?_ (hy:=λf W' hf h=>by obtain⟨c0,c1⟩:=h.cx;go_simp)
   try simp only[zzQ]
   refine qR (.slice (some ⟨b,off,none⟩) n cap) ?_
   try simp only[zzQ]
   refine qR (.int .i64 (k:Int)) ?_
   try simp only[zzQ]
   refine qR (.int .i64 ((k:Int)+1)) ?_
   try simp only[zzQ]
   refine qR (.slice (some ⟨b,off,none⟩) n cap) ?_
   try simp only[zzQ]
   refine qR (.int .i64 (n:Int)) ?_
   try simp only[zzQ]
   refine qR (.int .i64 (k':Int)) ?_
   try simp only[zzQ]
   refine qR (.pointer (some ⟨b,off+k'*2,none⟩)) ?_
   try simp only[zzQ]
   refine qR (.agg #[St xk,St yk]) ?_ (hy:=λf W' hf h=>by obtain⟨c0,c1⟩:=HCk.out _ h.bel;go_simp)
   try simp only[zzQ]
   refine zar (.bool fl) (by rfl) (λf W' hf h C' hC'=>by
    go_simp
    refine(HF.out _ (HW.out.below h.bel)).mono ?_
    rintro e w' ⟨rfl,hb⟩
    exact⟨rfl,hC' _ (h.next hb)⟩) ?_
   try simp only[zzQ]
   refine qR (.bool (!fl)) ?_
   try simp only[zzQ]
   refine zck λf W5 hf h5=>?_
   have HS5:=hid h5
   clear hf h5 HS HCi HCk HF
   cases fl
   case true=>
    have HK:=hid (show z3o l (k+1)=z3o l k by rw[z35,if_pos HFL.out])
    generalize z3o l k=acc at*
    go_wp2_with fail
    go_roundw
    case rel=>exact⟨k+1,q,c,by omega,by go_num,by rw[HK.out],HS5.out.bel,by rw[HK.out];exact HS5.out.own⟩
    case measure=>simp[zL];omega
   case false=>
    have HK:=hid (show z3o l (k+1)=z3o l k++[cor l k] by rw[z35,if_neg (by rw[HFL.out];simp)])
    have HLN:=hid (show(z3o l k).length<=k by unfold z3o;rw[List.length_map];exact Nat.le_trans (List.length_filter_le _ _) (by simp))
    generalize z3o l k=acc at*
    obtain⟨g0,g1⟩:=HS5.out.cx
    obtain⟨i0,hi,hz0,hz1,hz2⟩:=info_parts z4u
    have HD:=hid (⟨hi,hz0,hz1,hz2⟩:_/\_/\_/\_)
    clear hi hz0 hz1 hz2
    have hba:zB W5.heap.size W5 (W5.alloc (.cells #[St xj,St yj] 25)):=(zM _ W5).alloc (zN _) _
    have HLA:=hid (⟨HS5.out.next hba,(by have:=hba.size;have:=HS5.out.bel.size;omega)⟩:WoutS w (.slice q acc.length c) acc A xj yj (W5.alloc (.cells #[St xj,St yj] 25))/\w.heap.size<=(W5.alloc (.cells #[St xj,St yj] 25)).heap.size)
    clear hba
    go_wp2_with (at_builtin;refine wpList_append_own_at _ rfl _ _ 22 rfl w.heap.size 25 i0 (.agg #[St [],St []]) 2 32 Tryz.underlying22 HD.out.1 HD.out.2.1 HD.out.2.2.1 HD.out.2.2.2 rfl (by decide) (.slice q acc.length c) acc.length (z3k acc) rfl HLA.out.1.own ⟨W5.heap.size,0,none⟩ 1 1 [St xj,St yj] rfl rfl (z7w _ _ _ _) (z4n _ _) (by have:=HLN.out;unfold maxLen;omega) (by have:=HLN.out;omega) HLA.out.2 ?_)
    intro v' w1 hown' hgrow hnil hat
    obtain⟨q',c',rfl⟩:=z3z hown'
    have hbel:zB w.heap.size w w1:=HLA.out.1.bel.grown hgrow HLA.out.2 (λg e=>(HLA.out.1.own.lt g e).1)
    have HB1:=hid hbel
    have HO1:=hid (show w1.ownsRow w.heap.size 25 2 (.slice q' (acc.length+1) c') (acc++[cor l k]).length (z3k (acc++[cor l k])) by
     rw[zU,z39];show w1.ownsRow _ _ 2 _ (acc.length+1) (z3k acc++[St (numS (cor l k).x),St (numS (cor l k).y)]);rw[HXY.out.1,HXY.out.2];exact hown')
    clear hown' hgrow hnil hat hbel HLA
    go_wp2_with fail
    go_roundw
    case rel=>exact⟨k+1,q',c',by omega,by go_num,by rw[HK.out,zU];rfl,HB1,by rw[HK.out];have:=HO1.out;rw[zU] at this⊢;exact hid this⟩
    case measure=>simp[zL];omega
  ·obtain rfl:n=k:=by omega
   have HO:=hid (show wr.ownsRow w.heap.size 25 2 (.slice q (z3o l n).length c) (z3n l).length (z3k (z3n l)) by unfold z3n;rw[<-HN.out];exact hO.out)
   clear hO
   go_wp2_with fail
   go_ret
   exact⟨_,rfl,HO.out,hB.out⟩
theorem z5o:∀(l:List Pt) (k:Nat),k<l.length->(z3k l)[k*2]? =some (St (numS (cor l k).x))/\(z3k l)[k*2+1]? =some (St (numS (cor l k).y)):=by
 intro l k h
 rw[z3r h]
 induction l generalizing k with
 |nil=>simp at h
 |cons a r ih=>
  cases k with
  |zero=>exact⟨rfl,rfl⟩
  |succ k=>
   have:=ih k (by simpa using h)
   rw[show(k+1)*2=k*2+1+1 by omega]
   exact this
theorem z30 {w:zA} {base:Nat} {t:TypeId} {s:Nat} {v:Value} {n:Nat} {xs:List Value} (h:w.ownsRow base t s v n xs) (hn:0<n):
 ∃g c,v=.slice (some ⟨g,0,none⟩) n c/\base<=g/\∀i u,xs[i]? =some u->w.cell? ⟨g,i,none⟩=some u:=by
 rcases h.2 with⟨_,e⟩|⟨g,cp,cur,e,hg1,hg2,_,_,hcs,htk⟩
 ·omega
 ·refine⟨g,cp,e,hg1,λi u hu=>?_⟩
  rw[zJ hg2,<-Array.getElem?_toList]
  rw[<-htk,List.getElem?_take] at hu
  split at hu
  ·exact hu
  ·cases hu
theorem z4s {W:zA} {B:Nat} {v:Value} {o:List Pt} (h:W.ownsRow B 25 2 v o.length (z3k o)) (h0:0<o.length):
 ∃g c,v=.slice (some ⟨g,0,none⟩) o.length c/\B<=g/\∀W':zA,zB W.heap.size W W'->∀k,W'.cell? ⟨g,k%o.length*2,none⟩=some (St (numS (cor o k).x))/\W'.cell? ⟨g,k%o.length*2+1,none⟩=some (St (numS (cor o k).y)):=by
 obtain⟨g,c,e,hg,hc⟩:=z30 h h0
 refine⟨g,c,e,hg,λW' hb k=>?_⟩
 obtain⟨h1,h2⟩:=z5o o (k%o.length) (zP _ h0)
 rw[zt4] at h1 h2
 have ck:=zac hb
 exact⟨ck.cell (hc _ _ h1),ck.cell (hc _ _ h2)⟩
structure BoxS (w1:zA) (A:Nat) (x y:List UInt8) (W:zA):Prop where
 bel:zB w1.heap.size w1 W
 bx:W.heap[A]? =some (.cells #[St x,St y] 25 (0,0))
theorem BoxS.next {w1:zA} {A:Nat} {x y:List UInt8} {W W':zA} (h:BoxS w1 A x y W) (hb:zB W.heap.size W W'):BoxS w1 A x y W':=
 ⟨h.bel.trans (hb.mono h.bel.size),(hb.block _ (Array.getElem?_eq_some_iff.1 h.bx).1).trans h.bx⟩
theorem BoxS.cx {w1:zA} {A:Nat} {x y:List UInt8} {W:zA} (h:BoxS w1 A x y W):W.cell? ⟨A,0,none⟩=some (St x)/\W.cell? ⟨A,1,none⟩=some (St y):=by have:=h.bx;simp[World.cell?,this]
structure ConS (w:zA) (v:Value) (N:Nat) (x y:List Pt) (s1 s2:Value) (q:Nat×Value) (f:Nat->Bool) (W:zA):Prop where
 bel:zB w.heap.size w W
 own:W.ownsRow w.heap.size 25 2 v N (z3k x)
 nw:f 6=true->W.heap[q.1]? =some (.cells #[s1,s2] 22 (0,0))
 rs:f 7=true->W.ownsRow w.heap.size 25 2 q.2 N (z3k y)
section
variable {w W W':zA} {v s1 s2:Value} {N:Nat} {x y:List Pt} {q:Nat×Value} {f g:Nat->Bool}
theorem ConS.congr (h:ConS w v N x y s1 s2 q f W) (e6:g 6=f 6) (e7:g 7=f 7):ConS w v N x y s1 s2 q g W:=⟨h.bel,h.own,by rw[e6];exact h.nw,by rw[e7];exact h.rs⟩
theorem ConS.next (h:ConS w v N x y s1 s2 q f W) (hb:zB W.heap.size W W'):ConS w v N x y s1 s2 q f W':=
 ⟨h.bel.trans (hb.mono h.bel.size),zcj (zac hb) h.own,λk=>(hb.block _ (Array.getElem?_eq_some_iff.1 (h.nw k)).1).trans (h.nw k),λk=>zcj (zac hb) (h.rs k)⟩
theorem ConS.new (h:ConS w v N x y s1 s2 q f W) (e7:f 7=false) (g7:g 7=f 7):ConS w v N x y s1 s2 (W.heap.size,q.2) g (W.alloc (.cells #[s1,s2] 22)):=
 have hb:zB W.heap.size W (W.alloc (.cells #[s1,s2] 22)):=(zM _ W).alloc (zN _) _
 ⟨h.bel.trans (hb.mono h.bel.size),zcj (zac hb) h.own,λ_=>zG _ _,λk=>by rw[g7,e7] at k;cases k⟩
theorem ConS.res (h:ConS w v N x y s1 s2 q f W) (hb:zB W.heap.size W W') {u:Value} (hu:W'.ownsRow w.heap.size 25 2 u N (z3k y)) (e6:g 6=f 6):ConS w v N x y s1 s2 (q.1,u) g W':=
 ⟨(h.next hb).bel,(h.next hb).own,by rw[e6];exact(h.next hb).nw,λ_=>hu⟩
end
def catV (g N c F:Nat) (q:Nat×Value) (k:Nat):Value:=
 ([.slice (some ⟨g,0,none⟩) N c,.int .i64 (F:Int),.slice (some ⟨g,F*2,none⟩) (N-F) (c-F),.slice (some ⟨g,0,none⟩) N c,.int .i64 (F:Int),.slice (some ⟨g,0,none⟩) F c,.slice (some ⟨q.1,0,none⟩) 2 2,q.2,q.2]:List Value).getD k undef
theorem z5w (b off cap n:Nat) (o:List Pt) (h0:0<o.length) (hlen:o.length<=4096) (w:zA) (HW:Hid (Wd w))
 (WO:Hid (zC zF 90 #[.slice (some ⟨b,off,none⟩) n cap,.func (.func 91) #[] #[]] w λe w'=>∃v,e=.returned v/\w'.ownsRow w.heap.size 25 2 v o.length (z3k o)/\zB w.heap.size w w'))
 (OR:Hid (∀i j,qK 85 #[ptV (cor o i),ptV (cor o j)] (.int .i64 (ordP (cor o i) (cor o j)))))
 (RV:Hid (∀g c,∀W:zA,W.ownsRow w.heap.size 25 2 (.slice (some ⟨g,0,none⟩) o.length c) o.length (z3k o)->zC zF 92 #[.slice (some ⟨g,0,none⟩) o.length c] W λe w'=>e=.returned (.tuple #[])/\w'.ownsRow w.heap.size 25 2 (.slice (some ⟨g,0,none⟩) o.length c) o.length (z3k o.reverse)/\zB w.heap.size W w'))
 (CC:Hid (∀(g c F b:Nat) (x:List Pt),x.length=o.length->F<o.length->∀W:zA,w.heap.size<=W.heap.size->W.ownsRow w.heap.size 25 2 (.slice (some ⟨g,0,none⟩) o.length c) o.length (z3k x)->W.heap[b]? =some (.cells #[.slice (some ⟨g,F*2,none⟩) (o.length-F) (c-F),.slice (some ⟨g,0,none⟩) F c] 22 (0,0))->
   zC zF 93 #[.slice (some ⟨b,0,none⟩) 2 2] W λe w'=>∃v,e=.returned v/\w'.ownsRow w.heap.size 25 2 v o.length (z3k (x.drop F++x.take F))/\zB W.heap.size W w'))
 (TU:Hid (∀i j k,qK 35 #[ptV (cor o i),ptV (cor o j),ptV (cor o k)] (.int .i64 (turn (cor o i) (cor o j) (cor o k))))):
 zC zF 41 #[.slice (some ⟨b,off,none⟩) n cap] w λe w'=>∃v,e=.returned v/\w'.ownsRow w.heap.size 25 2 v o.length (z3k (z31 o))/\zB w.heap.size w w':=by
 obtain⟨N,hN⟩:∃N,N=o.length:=⟨_,rfl⟩
 go_enter Tryz.func41,Tryz.ntmps41
 go_wp2_with fail
 refine WO.out.mono ?_
 rintro e w1 ⟨v,rfl,hown,hb1⟩
 obtain⟨g,c,rfl,hg,hcs⟩:=z4s hown h0
 have HO:=hid hown;have HB:=hid hb1;have HC:=hid hcs
 clear hown hb1 hcs WO
 have hNc:o.length<=c:=by
  rcases HO.out.2 with⟨e,_⟩|⟨g',c',cur,e,_,_,h1,_⟩
  ·cases e
  ·cases e;exact h1
 rw[<-hN] at h0 hlen HO HC RV CC hNc⊢
 have HN:=hid hN;clear hN
 go_wp2_with fail
 go_loopw [12,4] (λi f wr=>∃(k:Nat),k<=N/\i=.int .i64 (k:Int)/\f=.int .i64 ((z3l o k:Nat):Int)/\Hid (zB w1.heap.size w1 wr))
  (λi _ _=>N-(zL i).toNat)
 case atStart=>exact⟨0,zR _,rfl,rfl,zM _ _⟩
 case round=>
  obtain⟨k,hk,rfl,rfl,hB⟩:=hrel
  by_cases hlt:k<N
  ·obtain⟨c0,c1⟩:=HC.out wr hB.out k
   rw[zQ hlt] at c0 c1
   have hll:z3l o k<N:=by rw[HN.out];exact(z4f (by rw[<-HN.out];exact h0) k (by rw[<-HN.out];exact hk)).1
   have hcs:=HC.out
   have HCf:=hid λW h=>hcs W h (z3l o k)
   rw[zQ hll] at HCf
   have hor:=OR.out k (z3l o k)
   have HL:=hid (show z3l o (k+1)=if ordP (cor o k) (cor o (z3l o k))<0 then k else z3l o k from rfl)
   unfold ptV at hor
   generalize z3l o k=f1 at*
   generalize hm:ordP (cor o k) (cor o f1)=m at*
   obtain⟨lb,hlb⟩:∃lb,decide (m<0)=lb:=⟨_,rfl⟩
   have HM:=hid hlb
   have HOR:=hid hor
   clear hor hcs hm hlb
   generalize numS (cor o k).x=xk at c0 HOR
   generalize numS (cor o k).y=yk at c1 HOR
   generalize numS (cor o f1).x=xf at HCf HOR
   generalize numS (cor o f1).y=yf at HCf HOR
   have HS:Hid (BoxS w1 wr.heap.size xk yk (wr.alloc (.cells #[St xk,St yk] 25))):=hid (by
    have hal:zB wr.heap.size wr (wr.alloc (.cells #[St xk,St yk] 25)):=(zM _ wr).alloc (zN _) _
    exact⟨hB.out.trans (hal.mono hB.out.size),zG _ _⟩)
   have hwr:IntKind.i64.wrap ((k:Int)+1)=(k:Int)+1:=zI _ ⟨by omega,by omega⟩
   go_wp2_with fail
   clear hB c0 c1
   obtain⟨W1,hW1⟩:∃W1,W1=wr.alloc (.cells #[St xk,St yk] 25):=⟨_,rfl⟩
   rw[<-hW1] at HS
   try rw[show wr.alloc (.cells #[.string ⟨xk.toArray⟩,.string ⟨yk.toArray⟩] 25)=W1 from hW1.symm]
   clear hW1
   generalize wr.heap.size=A at*
   refine zbl (λ_ W=>BoxS w1 A xk yk W) (by kernel_rfl) (by kernel_rfl) (HS.out.next (zM _ _).drew) ?_
   refine qR (.agg #[St xk,St yk]) ?_ (hy:=λf W' hf h=>by obtain⟨c0,c1⟩:=h.cx;go_simp)
   try simp only[zzQ]
   refine qR (.slice (some ⟨g,0,none⟩) N c) ?_
   try simp only[zzQ]
   refine qR (.int .i64 (f1:Int)) ?_
   try simp only[zzQ]
   refine qR (.pointer (some ⟨g,f1*2,none⟩)) ?_
   try simp only[zzQ]
   refine qR (.agg #[St xf,St yf]) ?_ (hy:=λf W' hf h=>by obtain⟨c0,c1⟩:=HCf.out _ h.bel;go_simp)
   try simp only[zzQ]
   refine zar (.int .i64 m) (by rfl) (λf W' hf h C' hC'=>by
    go_simp
    refine(HOR.out _ (HW.out.below (HB.out.trans (h.bel.mono HB.out.size)))).mono ?_
    rintro e w' ⟨rfl,hb⟩
    exact⟨rfl,hC' _ (h.next hb)⟩) ?_
   try simp only[zzQ]
   refine qR (.bool lb) ?_ (hy:=λf W' hf h=>by have h0:=HM.out;go_simp)
   try simp only[zzQ]
   refine zck λf W5 hf h5=>?_
   have HS5:=hid h5.bel
   clear hf h5 HS HCf HOR
   cases lb
   case true=>
    have HL2:=hid (show z3l o (k+1)=k by rw[HL.out,if_pos (of_decide_eq_true HM.out)])
    go_wp2_with fail
    go_roundw
    case rel=>exact⟨k+1,by omega,by go_num,by rw[HL2.out],HS5⟩
    case measure=>simp[zL];omega
   case false=>
    have HL2:=hid (show z3l o (k+1)=f1 by rw[HL.out,if_neg (of_decide_eq_false HM.out)])
    go_wp2_with fail
    go_roundw
    case rel=>exact⟨k+1,by omega,by go_num,by rw[HL2.out],HS5⟩
    case measure=>simp[zL];omega
  ·obtain rfl:N=k:=by omega
   have hF:z3l o N<N:=by have:=(z4f (o:=o) (by rw[<-HN.out];exact h0) o.length (zN _)).1;rwa [<-HN.out] at this
   have hcs:=HC.out
   have HCf:=hid λW h=>hcs W h (z3l o N)
   have HCp:=hid λW h=>hcs W h (z3l o N+N-1)
   have HCn:=hid λW h=>hcs W h (z3l o N+1)
   rw[zQ hF] at HCf
   have htu:=TU.out (z3l o N+N-1) (z3l o N) (z3l o N+1)
   unfold ptV at htu
   have HCO:=hid (show z31 o=if turn (cor o (z3l o N+N-1)) (cor o (z3l o N)) (cor o (z3l o N+1))<0 then o.reverse.drop (N-1-z3l o N)++o.reverse.take (N-1-z3l o N) else o.drop (z3l o N)++o.take (z3l o N) by unfold z31;rw[<-HN.out])
   generalize z3l o N=F at*
   generalize hm:turn (cor o (F+N-1)) (cor o F) (cor o (F+1))=m at*
   obtain⟨lb,hlb⟩:∃lb,decide (m<0)=lb:=⟨_,rfl⟩
   have HM:=hid hlb
   have HTU:=hid htu
   have ht:=z5z (k:=F) (n:=N) (by omega)
   have ht2:=z44 F N
   have hn0:¬N=0:=by omega
   have hw1:IntKind.i64.wrap ((F:Int)+N)=(F:Int)+N:=zI _ ⟨by omega,by omega⟩
   have hw2:IntKind.i64.wrap ((F:Int)+N-1)=(F:Int)+N-1:=zI _ ⟨by omega,by omega⟩
   have hw3:IntKind.i64.wrap ((F:Int)+1)=(F:Int)+1:=zI _ ⟨by omega,by omega⟩
   have hi1:(F+N-1)%N<N:=zP _ (by omega)
   have hi2:(F+1)%N<N:=zP _ (by omega)
   clear htu hcs hm hlb
   generalize (F+N-1)%N=i1 at*
   generalize (F+1)%N=i2 at*
   generalize numS (cor o (F+N-1)).x=xp at HCp HTU
   generalize numS (cor o (F+N-1)).y=yp at HCp HTU
   generalize numS (cor o F).x=xf at HCf HTU
   generalize numS (cor o F).y=yf at HCf HTU
   generalize numS (cor o (F+1)).x=xn at HCn HTU
   generalize numS (cor o (F+1)).y=yn at HCn HTU
   go_wp2_with fail
   refine zbl (λ_ W=>zB w1.heap.size w1 W) (by kernel_rfl) (by kernel_rfl) hB.out.drew ?_
   refine qR (.slice (some ⟨g,0,none⟩) N c) ?_
   try simp only[zzQ]
   refine qR (.int .i64 (F:Int)) ?_
   try simp only[zzQ]
   refine qR (.int .i64 (N:Int)) ?_
   try simp only[zzQ]
   refine qR (.int .i64 ((F:Int)+N)) ?_
   try simp only[zzQ]
   refine qR (.int .i64 ((F:Int)+N-1)) ?_
   try simp only[zzQ]
   refine qR (.int .i64 (N:Int)) ?_
   try simp only[zzQ]
   refine qR (.int .i64 (i1:Int)) ?_
   try simp only[zzQ]
   refine qR (.pointer (some ⟨g,i1*2,none⟩)) ?_
   try simp only[zzQ]
   refine qR (.agg #[St xp,St yp]) ?_ (hy:=λf W' hf h=>by obtain⟨c0,c1⟩:=HCp.out _ h;go_simp)
   try simp only[zzQ]
   refine qR (.slice (some ⟨g,0,none⟩) N c) ?_
   try simp only[zzQ]
   refine qR (.int .i64 (F:Int)) ?_
   try simp only[zzQ]
   refine qR (.pointer (some ⟨g,F*2,none⟩)) ?_
   try simp only[zzQ]
   refine qR (.agg #[St xf,St yf]) ?_ (hy:=λf W' hf h=>by obtain⟨c0,c1⟩:=HCf.out _ h;go_simp)
   try simp only[zzQ]
   refine qR (.slice (some ⟨g,0,none⟩) N c) ?_
   try simp only[zzQ]
   refine qR (.int .i64 (F:Int)) ?_
   try simp only[zzQ]
   refine qR (.int .i64 ((F:Int)+1)) ?_
   try simp only[zzQ]
   refine qR (.int .i64 (N:Int)) ?_
   try simp only[zzQ]
   refine qR (.int .i64 (i2:Int)) ?_
   try simp only[zzQ]
   refine qR (.pointer (some ⟨g,i2*2,none⟩)) ?_
   try simp only[zzQ]
   refine qR (.agg #[St xn,St yn]) ?_ (hy:=λf W' hf h=>by obtain⟨c0,c1⟩:=HCn.out _ h;go_simp)
   try simp only[zzQ]
   refine zar (.int .i64 m) (by rfl) (λf W' hf h C' hC'=>by
    go_simp
    refine(HTU.out _ (HW.out.below (HB.out.trans (h.mono HB.out.size)))).mono ?_
    rintro e w' ⟨rfl,hb⟩
    exact⟨rfl,hC' _ (h.trans (hb.mono h.size))⟩) ?_
   try simp only[zzQ]
   refine qR (.bool lb) ?_ (hy:=λf W' hf h=>by have h0:=HM.out;go_simp)
   try simp only[zzQ]
   refine zck λf W6 hf h5=>?_
   have HB6:=hid h5
   clear hf h5 HCf HCp HCn HTU hB
   have HO6:=hid (zcj (zac HB6.out) HO.out)
   have HB7:=hid (HB.out.trans (HB6.out.mono HB.out.size))
   clear HO HC HB HB6
   have hf1:(F:Int)<=(N:Int):=by omega
   have hf2:(F:Int)<=(c:Int):=by omega
   cases lb
   case true=>
    have HCF:=hid (HCO.out.trans (if_pos (of_decide_eq_true HM.out)))
    obtain⟨F',hF'⟩:∃F',F'=N-1-F:=⟨_,rfl⟩
    rw[<-hF'] at HCF
    have hw4:IntKind.i64.wrap ((N:Int)-1)=(N:Int)-1:=zI _ ⟨by omega,by omega⟩
    have hw5:IntKind.i64.wrap ((N:Int)-1-F)=(F':Int):=by rw[zI _ ⟨by omega,by omega⟩];omega
    have hf3:(F':Int)<=(N:Int):=by omega
    have hf4:(F':Int)<=(c:Int):=by omega
    have hF2:F'<N:=by omega
    clear hF'
    go_wp2_with fail
    refine(RV.out g c W6 HO6.out).mono ?_
    rintro e W7 ⟨rfl,ho7,hb7⟩
    have HO6:=hid ho7
    have HB7:=hid (HB7.out.trans hb7)
    clear ho7 hb7
    go_wp2_with fail
    refine zc4 (catV g N c F') (ConS w (.slice (some ⟨g,0,none⟩) N c) N (o.reverse) (o.reverse.drop F'++o.reverse.take F') (.slice (some ⟨g,F'*2,none⟩) (N-F') (c-F')) (.slice (some ⟨g,0,none⟩) F' c)) (by kernel_rfl) (by kernel_rfl) (0,undef) ⟨HB7.out.trans (zM _ _).drew,HO6.out,λk=>(by cases k),λk=>(by cases k)⟩ λq=>?_
    refine zag (.slice (some ⟨g,0,none⟩) N c) (by rfl) (by rfl) (λf W' h=>h.congr rfl rfl) (λf W' hf h=>by go_simp) ?_
    try simp only[zzQ]
    refine zag (.int .i64 (F':Int)) (by rfl) (by rfl) (λf W' h=>h.congr rfl rfl) (λf W' hf h=>by go_simp) ?_
    try simp only[zzQ]
    refine zag (.slice (some ⟨g,F'*2,none⟩) (N-F') (c-F')) (by rfl) (by rfl) (λf W' h=>h.congr rfl rfl) (λf W' hf h=>by go_simp;intro e;omega) ?_
    try simp only[zzQ]
    refine zag (.slice (some ⟨g,0,none⟩) N c) (by rfl) (by rfl) (λf W' h=>h.congr rfl rfl) (λf W' hf h=>by go_simp) ?_
    try simp only[zzQ]
    refine zag (.int .i64 (F':Int)) (by rfl) (by rfl) (λf W' h=>h.congr rfl rfl) (λf W' hf h=>by go_simp) ?_
    try simp only[zzQ]
    refine zag (.slice (some ⟨g,0,none⟩) F' c) (by rfl) (by rfl) (λf W' h=>h.congr rfl rfl) (λf W' hf h=>by go_simp) ?_
    try simp only[zzQ]
    refine zdc (.slice (some ⟨q.1,0,none⟩) 2 2) (by rfl) (by rfl) (λf W' hf h C' hC'=>by
     have h7:=hf.no (j:=7) hf.self (by kernel_rfl)
     have hj:∀j,f j=true->catV g N c F' (W'.heap.size,q.2) j=catV g N c F' q j:=by
      intro j hj
      match j,hj with
      |0,_|1,_|2,_|3,_|4,_|5,_=>rfl
      |6,hj=>rw[hf.self] at hj;cases hj
      |7,_|8,_=>rfl
      |_+9,_=>rfl
     have:=hC' _ _ hj (h.new h7 rfl)
     go_simp
     exact this) ?_
    try simp only[zzQ]
    refine zdc q.2 (by rfl) (by rfl) (λf W' hf h C' hC'=>by
     have h6:=hf.done 6 (by kernel_rfl)
     have h8:=hf.no (j:=8) hf.self (by kernel_rfl)
     have hc:=CC.out g c F' q.1 (o.reverse) (by rw[List.length_reverse];exact HN.out.symm) hF2 W' h.bel.size h.own (h.nw h6)
     have h7:=hf.self
     go_simp
     refine hc.mono ?_
     rintro e w' ⟨u,rfl,hown,hb⟩
     have hj:∀j,f j=true->catV g N c F' (q.1,u) j=catV g N c F' q j:=by
      intro j hj
      match j,hj with
      |0,_|1,_|2,_|3,_|4,_|5,_|6,_=>rfl
      |7,hj=>rw[h7] at hj;cases hj
      |8,hj=>rw[h8] at hj;cases hj
      |_+9,_=>rfl
     exact⟨_,rfl,hC' (q.1,u) _ hj (h.res hb hown rfl)⟩) ?_
    try simp only[zzQ]
    refine zag q.2 (by rfl) (by rfl) (λf W' h=>h.congr rfl rfl) (λf W' hf h=>by go_simp) ?_
    try simp only[zzQ]
    refine ze1 λf W8 hf h=>?_
    have HV:=hid (⟨h.rs (hf 7 (by decide)),h.bel⟩:_/\_)
    clear hf h
    go_wp2_with fail
    go_ret
    exact⟨_,rfl,by rw[HCF.out,<-HN.out];exact HV.out.1,HV.out.2⟩
   case false=>
    have HCF:=hid (HCO.out.trans (if_neg (of_decide_eq_false HM.out)))
    go_wp2_with fail
    refine zc4 (catV g N c F) (ConS w (.slice (some ⟨g,0,none⟩) N c) N (o) (o.drop F++o.take F) (.slice (some ⟨g,F*2,none⟩) (N-F) (c-F)) (.slice (some ⟨g,0,none⟩) F c)) (by kernel_rfl) (by kernel_rfl) (0,undef) ⟨HB7.out.trans (zM _ _).drew,HO6.out,λk=>(by cases k),λk=>(by cases k)⟩ λq=>?_
    refine zag (.slice (some ⟨g,0,none⟩) N c) (by rfl) (by rfl) (λf W' h=>h.congr rfl rfl) (λf W' hf h=>by go_simp) ?_
    try simp only[zzQ]
    refine zag (.int .i64 (F:Int)) (by rfl) (by rfl) (λf W' h=>h.congr rfl rfl) (λf W' hf h=>by go_simp) ?_
    try simp only[zzQ]
    refine zag (.slice (some ⟨g,F*2,none⟩) (N-F) (c-F)) (by rfl) (by rfl) (λf W' h=>h.congr rfl rfl) (λf W' hf h=>by go_simp;intro e;omega) ?_
    try simp only[zzQ]
    refine zag (.slice (some ⟨g,0,none⟩) N c) (by rfl) (by rfl) (λf W' h=>h.congr rfl rfl) (λf W' hf h=>by go_simp) ?_
    try simp only[zzQ]
    refine zag (.int .i64 (F:Int)) (by rfl) (by rfl) (λf W' h=>h.congr rfl rfl) (λf W' hf h=>by go_simp) ?_
    try simp only[zzQ]
    refine zag (.slice (some ⟨g,0,none⟩) F c) (by rfl) (by rfl) (λf W' h=>h.congr rfl rfl) (λf W' hf h=>by go_simp) ?_
    try simp only[zzQ]
    refine zdc (.slice (some ⟨q.1,0,none⟩) 2 2) (by rfl) (by rfl) (λf W' hf h C' hC'=>by
     have h7:=hf.no (j:=7) hf.self (by kernel_rfl)
     have hj:∀j,f j=true->catV g N c F (W'.heap.size,q.2) j=catV g N c F q j:=by
      intro j hj
      match j,hj with
      |0,_|1,_|2,_|3,_|4,_|5,_=>rfl
      |6,hj=>rw[hf.self] at hj;cases hj
      |7,_|8,_=>rfl
      |_+9,_=>rfl
     have:=hC' _ _ hj (h.new h7 rfl)
     go_simp
     exact this) ?_
    try simp only[zzQ]
    refine zdc q.2 (by rfl) (by rfl) (λf W' hf h C' hC'=>by
     have h6:=hf.done 6 (by kernel_rfl)
     have h8:=hf.no (j:=8) hf.self (by kernel_rfl)
     have hc:=CC.out g c F q.1 (o) (HN.out.symm) hF W' h.bel.size h.own (h.nw h6)
     have h7:=hf.self
     go_simp
     refine hc.mono ?_
     rintro e w' ⟨u,rfl,hown,hb⟩
     have hj:∀j,f j=true->catV g N c F (q.1,u) j=catV g N c F q j:=by
      intro j hj
      match j,hj with
      |0,_|1,_|2,_|3,_|4,_|5,_|6,_=>rfl
      |7,hj=>rw[h7] at hj;cases hj
      |8,hj=>rw[h8] at hj;cases hj
      |_+9,_=>rfl
     exact⟨_,rfl,hC' (q.1,u) _ hj (h.res hb hown rfl)⟩) ?_
    try simp only[zzQ]
    refine zag q.2 (by rfl) (by rfl) (λf W' h=>h.congr rfl rfl) (λf W' hf h=>by go_simp) ?_
    try simp only[zzQ]
    refine ze1 λf W8 hf h=>?_
    have HV:=hid (⟨h.rs (hf 7 (by decide)),h.bel⟩:_/\_)
    clear hf h
    go_wp2_with fail
    go_ret
    exact⟨_,rfl,by rw[HCF.out,<-HN.out];exact HV.out.1,HV.out.2⟩
theorem z81 (l:List UInt8) (s:ByteArray) (hs:s=⟨l.toArray⟩) (hl:l≠[]):∃h:0<s.size,(((s[0]'h).toNat:Int)==45)=decide (l.head? =some 45):=by
 obtain⟨c,r,rfl⟩:=List.exists_cons_of_ne_nil hl
 subst hs
 refine⟨by simp[ByteArray.size],?_⟩
 show((c.toNat:Int)==45)=decide (some c=some 45)
 rw[Bool.eq_iff_iff,beq_iff_eq,decide_eq_true_iff,Option.some.injEq]
 constructor
 ·intro h
  exact UInt8.toNat_inj.1 (show c.toNat=(45:UInt8).toNat by have:(45:UInt8).toNat=45:=rfl;omega)
 ·rintro rfl;rfl
theorem ycm {W:zA} {B g c:Nat} {o:List Pt} (h:W.ownsRow B 25 2 (.slice (some ⟨g,0,none⟩) o.length c) o.length (z3k o)):RowPts (some ⟨g,0,none⟩) o W:=by
 intro i hi
 obtain⟨g',c',e,_,hc⟩:=z30 h (by omega)
 obtain⟨rfl,rfl⟩:g=g'/\c=c':=by cases e;exact⟨rfl,rfl⟩
 obtain⟨h1,h2⟩:=z5o o i hi
 have e:ptOf (txt o) i=(numS (cor o i).x,numS (cor o i).y):=by
  unfold ptOf txt
  rw[List.getElem?_map,yB hi,z3r hi];rfl
 exact⟨g,0,rfl,by rw[e,Nat.zero_add];exact hc _ _ h1,by rw[e,Nat.zero_add];exact hc _ _ h2⟩
theorem z98 {W:zA} {B m:Nat} {v:Value} {o:List Pt} (hm:m=o.length) (h:W.ownsRow B 25 2 v m (z3k o)) (h0:0<m):
 ∃g c,v=.slice (some ⟨g,0,none⟩) m c/\RowPts (some ⟨g,0,none⟩) o W/\∀W':zA,zB W.heap.size W W'->∀k,W'.cell? ⟨g,k%m*2,none⟩=some (St (numS (cor o k).x))/\W'.cell? ⟨g,k%m*2+1,none⟩=some (St (numS (cor o k).y)):=by
 subst hm
 obtain⟨g,c,rfl,_,hc⟩:=z4s h h0
 exact⟨g,c,rfl,ycm h,hc⟩
theorem ydb (g1 k1 g2 k2 m:Nat) (c:List Pt) (hm:m=c.length) (h0:0<m) (h1:m<=4096) (w:zA)
 (HA:∀W:zA,zB w.heap.size w W->∀k,W.cell? ⟨g1,k%m*2,none⟩=some (St (numS (cor c k).x))/\W.cell? ⟨g1,k%m*2+1,none⟩=some (St (numS (cor c k).y)))
 (HB:∀W:zA,zB w.heap.size w W->∀k,W.cell? ⟨g2,k%m*2,none⟩=some (St (numS (cor c k).x))/\W.cell? ⟨g2,k%m*2+1,none⟩=some (St (numS (cor c k).y))):
 qJ 17 #[.slice (some ⟨g1,0,none⟩) m k1,.slice (some ⟨g2,0,none⟩) m k2] w (.bool true):=by
 subst hm
 have h:=z5s g1 k1 g2 k2 c c h0 h1 h0 h1 w (hid HA) (hid HB)
 unfold EqP at h
 rw[decide_eq_true (rfl:c=c)] at h
 exact h
theorem yan (p:Option Addr) (cap n j:Nat) (l:List (List UInt8×List UInt8)) (x y:List UInt8) (hn:n<=4096) (hj:j<n) (HL:Hid (l.length=n)) (HJ:Hid (ptOf l j=(x,y))) (w:zA) (HP:Hid (RowTx p l w)):
 zC zF 50 #[.slice p n cap,.agg #[St x,St y]] w λe w'=>∃k:Nat,e=.returned (.int .i64 (k:Int))/\k<n/\zB w.heap.size w w':=by
 obtain⟨W0,hW0⟩:∃W0,W0=w.alloc (.cells #[St x,St y] 25):=⟨_,rfl⟩
 have HS:=hid (show BoxS w w.heap.size x y W0 by rw[hW0];exact⟨(zM _ w).alloc (zN _) _,zG _ _⟩)
 have H9:=hid hW0.symm
 clear hW0
 go_enter Tryz.func50,Tryz.ntmps50
 go_wp2_with fail
 simp only[H9.out]
 go_loopw [8] (λi wr=>∃(k:Nat),k<=j/\i=.int .i64 (k:Int)/\Hid (BoxS w w.heap.size x y wr))
  (λi _=>n-(zL i).toNat)
 case atStart=>exact⟨0,zR _,rfl,HS⟩
 case round=>
  obtain⟨k,hk,rfl,hS⟩:=hrel
  clear HS H9
  have hlt:k<n:=by omega
  obtain⟨b,off,hp,d0,d1⟩:=(HP.out.keep (zac hS.out.bel)) k (by rw[HL.out];exact hlt)
  subst hp
  obtain⟨c0,c1⟩:=hS.out.cx
  have HQ:=hid λm=>hS.out.next (zao (zM _ wr) m)
  have HE:=hid (λ(h:(ptOf l k).1≠x\/(ptOf l k).2≠y)=>(by
   have:k≠j:=λe=>by subst e;rw[HJ.out] at h;simp at h
   omega:k+1<=j))
  clear hS
  generalize (ptOf l k).1=a at*
  generalize (ptOf l k).2=c at*
  by_cases hxx:x=a
  ·by_cases hyy:y=c
   ·subst hxx;subst hyy
    go_wp2_with fail
    go_quiet (fail)
    go_wp2_with fail
    go_ret
    exact⟨k,rfl,hlt,(HQ.out _).bel⟩
   ·have HE2:=hid (HE.out (.inr λe=>hyy e.symm))
    subst hxx
    go_wp2_with fail
    go_quiet (fail)
    go_wp2_with fail
    go_roundw
    case rel=>exact⟨k+1,HE2.out,by go_num,hid (HQ.out _)⟩
    case measure=>simp[zL];omega
  ·have HE2:=hid (HE.out (.inl λe=>hxx e.symm))
   go_wp2_with fail
   go_quiet (fail)
   go_wp2_with fail
   go_roundw
   case rel=>exact⟨k+1,HE2.out,by go_num,hid (HQ.out _)⟩
   case measure=>simp[zL];omega
theorem z99 (p:Option Addr) (cap n j:Nat) (l:List (List UInt8×List UInt8)) (x y:List UInt8) (hn:n<=4096) (hj:j<n) (HL:l.length=n) (HJ:ptOf l j=(x,y)) (w:zA) (HP:RowTx p l w):
 qJ 19 #[.slice p n cap,.agg #[St x,St y]] w (.bool true):=by
 obtain⟨W0,hW0⟩:∃W0,W0=w.alloc (.cells #[St x,St y] 25):=⟨_,rfl⟩
 have HS:=hid (show BoxS w w.heap.size x y W0 by rw[hW0];exact⟨(zM _ w).alloc (zN _) _,zG _ _⟩)
 have HI:=hid (yan p cap n j l x y hn hj (hid HL) (hid HJ) W0 (hid (HP.keep (zac HS.out.bel))))
 have H9:=hid hW0.symm
 clear hW0 HP HL HJ
 go_enter Tryz.func19,Tryz.ntmps19
 go_wp2_with fail
 simp only[H9.out]
 refine HI.out.mono ?_
 rintro e w1 ⟨k,rfl,hk,hb⟩
 have HS1:=hid (HS.out.next hb)
 clear hb HS HI H9
 go_wp2_with fail
 go_ret
 exact⟨rfl,HS1.out.bel⟩
end
section
open Go.RowKit Go.Shelf Lib Str Limb Geo
end
end Go.Proofs.YthfpmfdiamldoaaGreatDoor
