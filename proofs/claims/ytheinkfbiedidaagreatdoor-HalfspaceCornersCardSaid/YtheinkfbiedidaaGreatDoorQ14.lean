/- surd.Make of terms with any normal roots: what is left lies in the order of its roots, or a coefficient is too long. -/
import Derived.Test.YtheinkfbiedidaaGreatDoorQ13
import Derived.LaidByTextLater
set_option maxRecDepth 100000
set_option maxHeartbeats 8000000
open Go renaming World → zA, Calls → zC
open Go.RowKit renaming Below → zB
open Go.Lib renaming decDigits → zD
open Go.Proofs.Tryz renaming prog → zF
open Go.World renaming alloc_heap_new → zG
open Go.Joins renaming cell_of_block → zJ, block_setCell → zK
open Go.RowKit.Below renaming refl → zM, heap_setCell → yE
open Nat renaming le_refl → zN, le_trans → zO, pow_le_pow_right → yF, pos_of_ne_zero → yS
open List renaming length_map → zV, getElem?_eq_getElem → yB, append_nil → yH
namespace Go.Proofs.YtheinkfbiedidaaGreatDoor
section
open Go.RowKit Go.Shelf Lib Str Limb
attribute [local go_sem] Oper.semAt_some
theorem zr8 (r s:Nat) (h:NrmR r) (hs:NrmR s) (ha:z5c (r:Rat) (s:Rat)=true) (W:zA) (hW:Wd W):qJ 83 #[St (zD r),St (zD s)] W (.tuple #[St (numS (rt ((r:Rat)/(s:Rat)))),.bool true,.int .i64 0]):=by
 have hp:(0:Rat)<(r:Rat):=by have:=h.pos;exact_mod_cast this
 have hq:(0:Rat)<(s:Rat):=by have:=hs.pos;exact_mod_cast this
 have sr:sz (r:Rat) 90:=(zrg (by omega) h.len).mono (by omega);have ss:sz (s:Rat) 90:=(zrg (by omega) hs.len).mono (by omega);have:=zvz (r:Rat) (s:Rat) (Rat.le_of_lt hp) hq sr ss _ _ (zv0 _) (zv0 _) W hW;unfold z5c at ha;rw[ha,if_pos rfl,zhe,zhe] at this;exact this
theorem z5b (r s:Nat) (h:NrmR r) (hs:NrmR s):∃n:Int,(decide (n<0)=decide (r<s))/\qK 81 #[St (zD r),St (zD s)] (.tuple #[.int .i64 n,.int .i64 0]):=by
 have sr:sz (r:Rat) 16:=zrg (by omega) h.len;have ss:sz (s:Rat) 16:=zrg (by omega) hs.len;refine⟨Geo.cmpR (r:Rat) (s:Rat),?_,λW hW=>?_⟩
 ·have hc:=Geo.zaw (r:Rat) (s:Rat)
  have e:(r<s)↔(r:Rat)<(s:Rat):=by constructor<;>intro h<;>exact_mod_cast h
  rw[decide_eq_decide,e];grind
 ·have:=zgq (r:Rat) (s:Rat) 16 16 (by omega) (by omega) (by omega) sr ss W hW
  rw[zhe,zhe] at this;exact this
theorem z35 (gb:Nat) (l:List (Rat×Nat)) (t:Rat×Nat) (hl:l.length<=5000) (ht:NrmR t.2) (hc:∀c∈l,NrmR c.2) (hs:∀c∈l,sz c.1 140) (hst:sz t.1 140) (W:zA) (hW:Wd W) (h:GatL gb (l.map strT) W):
 zC zF 98 #[.pointer (some ⟨gb,0,none⟩),.agg #[St (numS t.1),St (zD t.2)]] W λe w'=>e=.returned (.int .i64 0)/\zB gb W w'/\GatL gb ((gaG l t).map strT) w':=by
 rcases zm7 t l with⟨h1,h2⟩|⟨j,c,h1,h2,h3,h4⟩
 ·have:=zot gb (l.map strT) (numS t.1) (zD t.2) (by simpa using hl) (hid λi d hd=>by
   rw[List.getElem?_map,Option.map_eq_some_iff] at hd;obtain⟨c,hi,rfl⟩:=hd;have hm:=List.mem_of_getElem? hi;exact⟨_,λV hV=>zf4 t.2 c.2 ht (hc c hm) (h1 c hm) V hV⟩) W (hid hW) (hid h)
  rw[h2,List.map_append];exact this
 ·have hm:=List.mem_of_getElem? h1
  have nc:=hc c hm;have a1:=zx2 nc;have a2:=zx2 ht;have p1:=nc.pos;have p2:=ht.pos;obtain⟨nn,hnn,hcmp⟩:=z5b t.2 c.2 ht nc;have hR:Hid (∀(i:Nat) (d:List UInt8×List UInt8),i<j->(l.map strT)[i]? =some d->∃k,qK 83 #[St (zD t.2),St d.2] (.tuple #[.string k,.bool false,.int .i64 0])):=hid λi d hi hd=>by
   rw[List.getElem?_map,Option.map_eq_some_iff] at hd;obtain⟨x,hx,rfl⟩:=hd;have hmx:=List.mem_of_getElem? hx;exact⟨_,λV hV=>zf4 t.2 x.2 ht (hc x hmx) (h3 i x hi hx) V hV⟩
  rw[h4];have e:(l.set j (plG c t)).map strT=(l.map strT).set j (strT (plG c t)):=by rw[List.map_set]
  rw[e];by_cases hlt:t.2<c.2
  ·have sk:=zzs (zvm (n:=c.2) (d:=t.2) (k:=16) (by omega) a1 a2)
   have sm:=zca (hs c hm) sk;have ha:z5c (c.2:Rat) (t.2:Rat)=true:=zu5 (by exact_mod_cast p2) (by exact_mod_cast p1) h2;have hz:plG c t=(t.1+c.1*rt ((c.2:Rat)/(t.2:Rat)),t.2):=by unfold plG;rw[if_pos hlt]
   have:=zrp gb (l.map strT) (numS t.1) (zD t.2) (numS c.1) (zD c.2) (numS (t.1+c.1*rt ((c.2:Rat)/(t.2:Rat)))) (zD t.2) ⟨(numS (rt ((t.2:Rat)/(c.2:Rat)))).toArray⟩ j nn true (by simpa using hl) (by rw[List.getElem?_map,h1];rfl) (by rw[hnn];exact decide_eq_true hlt) hR
    (hid λV hV=>zr8 t.2 c.2 ht nc h2 V hV)
    (hid hcmp)
    (hid λV hV=>zvt (numS t.1) (zD t.2) (numS c.1) (zD c.2) (numS (rt ((c.2:Rat)/(t.2:Rat)))) (numS (c.1*rt ((c.2:Rat)/(t.2:Rat)))) (numS (t.1+c.1*rt ((c.2:Rat)/(t.2:Rat)))) true (hid λU hU=>zr8 c.2 t.2 nc ht ha U hU) (hid λU hU=>zjf _ _ 140 16 (by omega) (by omega) (by omega) (hs c hm) sk U hU) (hid λU hU=>zje _ _ 140 156 (by omega) (by omega) (by omega) hst sm U hU) V (hid hV)) W (hid hW) (hid h)
   rw[hz];exact this
  ·have sk:=zzs (zvm (n:=t.2) (d:=c.2) (k:=16) (by omega) a2 a1)
   have sm:=zca hst sk;have hz:plG c t=(c.1+t.1*rt ((t.2:Rat)/(c.2:Rat)),c.2):=by unfold plG;rw[if_neg hlt]
   have:=zrp gb (l.map strT) (numS t.1) (zD t.2) (numS c.1) (zD c.2) (numS (c.1+t.1*rt ((t.2:Rat)/(c.2:Rat)))) (zD c.2) ⟨(numS (rt ((t.2:Rat)/(c.2:Rat)))).toArray⟩ j nn false (by simpa using hl) (by rw[List.getElem?_map,h1];rfl) (by rw[hnn];exact decide_eq_false hlt) hR
    (hid λV hV=>zr8 t.2 c.2 ht nc h2 V hV)
    (hid hcmp)
    (hid λV hV=>zvt (numS c.1) (zD c.2) (numS t.1) (zD t.2) (numS (rt ((t.2:Rat)/(c.2:Rat)))) (numS (t.1*rt ((t.2:Rat)/(c.2:Rat)))) (numS (c.1+t.1*rt ((t.2:Rat)/(c.2:Rat)))) true (hid λU hU=>zr8 t.2 c.2 ht nc h2 U hU) (hid λU hU=>zjf _ _ 140 16 (by omega) (by omega) (by omega) hst sk U hU) (hid λU hU=>zje _ _ 140 156 (by omega) (by omega) (by omega) (hs c hm) sm U hU) V (hid hV)) W (hid hW) (hid h)
   rw[hz];exact this
structure MkGT (T:List (Rat×Nat)):Prop where
 len:T.length<=12
 ne:∀t∈T,t.1≠0
 tsz:∀t∈T,sz t.1 140
 nr:∀t∈T,NrmR t.2
 mid:∀i,i<=T.length->∀c∈grG T i,sz c.1 140
theorem SdOk.uls {l:List (Rat×Nat)} (h:SdOk l):ULs l:=h.apt
theorem SdOk.pos {l:List (Rat×Nat)} (h:SdOk l):PosR l:=λt ht=>by have:=(h.trm t ht).nr.pos;exact_mod_cast this
theorem zz7 {l r:List (Rat×Nat)} (hl:SdOk l) (hr:SdOk r) (hlen:l.length+r.length<=12):MkGT (l++r):=by
 have hm:∀t∈l++r,TrmR t.1 t.2:=λt ht=>(List.mem_append.1 ht).elim (hl.trm t) (hr.trm t);refine⟨by simpa using hlen,λt ht=>(hm t ht).ne,λt ht=>(hm t ht).sc.mono (by omega),λt ht=>(hm t ht).nr,λi hi c hc=>?_⟩;rcases Nat.lt_or_ge i l.length with h|h
 ·rw[zyd hl.uls i (by omega)] at hc
  exact(hl.trm c (List.mem_of_mem_take hc)).sc.mono (by omega)
 ·obtain⟨k,rfl⟩:∃k,i=l.length+k:=⟨i-l.length,by omega⟩
  rcases zzz hl.uls hr.uls hl.pos hr.pos k c hc with h1|h1|⟨a,ha,b,hb,_,rfl⟩
  ·exact(hl.trm c h1).sc.mono (by omega)
  ·exact(hr.trm c (List.mem_of_mem_take h1)).sc.mono (by omega)
  ·have hb2:=List.mem_of_mem_take hb
   exact z6m (hl.trm a ha).nr (hr.trm b hb2).nr (hl.trm a ha).sc (hr.trm b hb2).sc
theorem z18 (T:List (Rat×Nat)) (hT:MkGT T) (X Y:Nat->List UInt8) (hX:∀i t,T[i]? =some t->X i=numS t.1/\Y i=zD t.2) (q:Option Addr) (cap:Nat) (w:zA) (HW:Hid (∀W,qL w W->Wd W)) (HP:Hid (∀W,qL w W->Pw W))
 (HT:Hid (∀i t,T[i]? =some t->∃b off,q=some ⟨b,off,none⟩/\b<w.heap.size/\w.cell? ⟨b,off+i*2,none⟩=some (St (numS t.1))/\w.cell? ⟨b,off+i*2+1,none⟩=some (St (zD t.2)))) (u vg:zA) (h1:qL w u) (h2:qL u vg) (h3:vg.heap.size=u.heap.size+1) (h4:GatL u.heap.size [] vg):
 zC zF 97 #[.slice q T.length cap,.func (.func 98) #[.pointer (some ⟨u.heap.size,0,none⟩)] #[]] vg λe w'=>e=.returned (.int .i64 0)/\zB u.heap.size vg w'/\GatL u.heap.size ((grG T T.length).map strT) w':=by
 have at_:∀i,i<T.length->∃t,T[i]? =some t:=λi hi=>⟨_,yB hi⟩;have hrt:∀t∈T,okQ (t.2:Rat):=λt ht=>zd0 (by omega) (by omega) (zrg (k:=16) (by omega) (hT.nr t ht).len);have hcr:∀(i:Nat) (c:Rat×Nat),c∈grG T i->NrmR c.2:=λi c hc=>by
  obtain⟨t,ht,e⟩:=zvl i hc;rw[<-e];exact hT.nr t ht
 have hs:=h1.size
 exact z4e u.heap.size q cap T.length X Y (λi=>GatL u.heap.size ((grG T i).map strT)) (by have:=hT.len;omega)
  (hid λi hi=>by
    obtain⟨t,ht⟩:=at_ i hi;have hmt:=List.mem_of_getElem? ht;have hn:=hT.nr t hmt;have sr:sz (t.2:Rat) 16:=zrg (by omega) hn.len;have d1:zD 1=[49]:=by rw[zae (by omega)];rfl
    have hlg:∃ln:Int,ln<=90/\qK 99 #[St (zD t.2)] (.int .i64 ln):=by
     have d:=zok (k:=16) (by omega) sr;refine⟨max (digs (t.2:Rat).num:Int) (digs ((t.2:Rat).den:Int):Nat),?_,λW hW=>?_⟩
     ·have d2:digs ((t.2:Rat).den:Int)<=16:=by rw[zd9];exact d.2
      have:=d.1;omega
     ·have:=znp (t.2:Rat) (hrt t hmt) W hW
      rw[zhe] at this;exact this
    obtain⟨ln,hln,hlw⟩:=hlg;have hadd:∀W:zA,Wd W->GatL u.heap.size ((grG T i).map strT) W->zC zF 98 #[.pointer (some ⟨u.heap.size,0,none⟩),.agg #[St (numS t.1),St (zD t.2)]] W λe w'=>e=.returned (.int .i64 0)/\zB u.heap.size W w'/\GatL u.heap.size ((grG T (i+1)).map strT) w':=λW hW hg=>by
     rw[zr9 ht];exact z35 u.heap.size (grG T i) t (by have:=zw1 T i;have:=hT.len;omega) hn (λc hc=>hcr i c hc) (λc hc=>hT.mid i (by omega) c hc) (hT.tsz t hmt) W hW hg
    rw[(hX i t ht).1,(hX i t ht).2];have hcz:=zsf (hT.ne t hmt);have hrz:(zD t.2==[48])=false:=by
     rw[beq_eq_false_iff_ne];intro e;have:zD t.2=zD 0:=by rw[e,zae (by omega)];rfl
     have h0:=hn.pos;rw[<-Str.zad,<-Str.zad] at this;have:=zdo this;omega
    by_cases e1:t.2=1
    ·refine⟨true,[49],zD t.2,numS t.1,ln,hcz,hrz,by rw[e1,d1];rfl,λ_=>⟨rfl,rfl⟩,λh=>(by cases h),hlw,decide_eq_false (by omega),λW hW=>?_,λW W' h hb=>GatL.keep h (zac hb),hadd⟩
     have:=z61 t.1 1 t.1 140 1 (by omega) (by omega) (by omega) (hT.tsz t hmt) zb7.2.1 (by rw[Rat.mul_one]) W hW;rw[zfc] at this;exact this
    ·refine⟨false,zD 1,zD t.2,numS t.1,ln,hcz,hrz,?_,λh=>(by cases h),λ_ W hW hP=>?_,hlw,decide_eq_false (by omega),λW hW=>?_,λW W' h hb=>GatL.keep h (zac hb),hadd⟩
     ·rw[beq_eq_false_iff_ne,<-d1];intro e
      rw[<-Str.zad,<-Str.zad] at e;have:=zdo e;omega
     ·have:=z4c t.2 hn.pos hn.len W hW hP
      rw[hn.nc] at this;exact this
     ·have:=z61 t.1 1 t.1 140 1 (by omega) (by omega) (by omega) (hT.tsz t hmt) zb7.2.1 (by rw[Rat.mul_one]) W hW
      rw[zfc] at this;rw[d1];exact this) vg (by omega)
  (hid λW h=>HW.out _ (h1.trans ((h2.trans h).mono hs))) (hid λW h=>HP.out _ (h1.trans ((h2.trans h).mono hs))) h4
  (hid λi hi=>by
    obtain⟨t,ht⟩:=at_ i hi;obtain⟨b,off,e,hb,c0,c1⟩:=HT.out i t ht;have hB:qL w vg:=h1.trans (h2.mono hs);rw[(hX i t ht).1,(hX i t ht).2];exact⟨b,off,e,by omega,by rw[hB.cell (p:=⟨b,off+i*2,none⟩) hb];exact c0,by rw[hB.cell (p:=⟨b,off+i*2+1,none⟩) hb];exact c1⟩)
theorem zyf {α:Type} (p:α->Bool):∀l:List α,(∀c∈l,p c=false)\/∃(j:Nat) (c:α),l[j]? =some c/\p c=true/\∀(i:Nat) (d:α),i<j->l[i]? =some d->p d=false
 |[]=>.inl λc h=>(by cases h)
 |a::l=>by
  cases e:p a
  ·rcases zyf p l with h|⟨j,c,h1,h2,h3⟩
   ·left
    intro c hc;rcases List.mem_cons.1 hc with rfl|hc
    ·exact e
    ·exact h c hc
   ·right
    refine⟨j+1,c,by simpa using h1,h2,λi d hi hd=>?_⟩
    cases i with
    |zero=>simp at hd;subst hd;exact e
    |succ i=>exact h3 i d (by omega) (by simpa using hd)
  ·exact .inr ⟨0,a,rfl,e,λi d hi=>by omega⟩
def MkR (l:List (Rat×Nat)) (v:Value) (r:Int) (W:zA):Prop:=(r=0/\SdL v l W/\∀c∈l,sz c.1 60)\/(r=4/\v=.slice none 0 0/\¬ ∀c∈l,sz c.1 60)
def MkOut (l:List (Rat×Nat)) (w:zA) (e:Ending) (w':zA):Prop:=
 ∃q n c r,e=.returned (.tuple #[.slice q n c,.int .i64 r])/\zB w.heap.size w w'/\MkR l (.slice q n c) r w'
theorem MkOut.ok {l:List (Rat×Nat)} {w w':zA} {e:Ending} (h:MkOut l w e w') (hs:∀c∈l,sz c.1 60):∃v,e=.returned (.tuple #[v,.int .i64 0])/\zB w.heap.size w w'/\SdL v l w':=by
 obtain⟨q,n,c,r,e1,hb,⟨rfl,h,_⟩|⟨_,_,h⟩⟩:=h
 ·exact⟨_,e1,hb,h⟩
 ·exact absurd hs h
instance szDec (q:Rat) (k:Nat):Decidable (sz q k):=inferInstanceAs (Decidable (_/\_))
theorem z23 (T:List (Rat×Nat)) (hT:MkGT T) (v:Value) (w:zA) (HW:Hid (∀W,qL w W->Wd W)) (HP:Hid (∀W,qL w W->Pw W)) (hs:SdL v T w):
 zC zF 52 #[v] w (MkOut (mkG T) w):=by
 obtain⟨q,cap,rfl, -,hx⟩:=hs.slice;have HT:=hid hx;have at_:∀i,i<T.length->∃t,T[i]? =some t:=λi hi=>⟨_,yB hi⟩;let X:Nat->List UInt8:=λi=>numS ((T[i]?.getD (1,1)).1);let Y:Nat->List UInt8:=λi=>zD ((T[i]?.getD (1,1)).2);have hX:∀i t,T[i]? =some t->X i=numS t.1/\Y i=zD t.2:=λi t h=>⟨by show numS ((T[i]?.getD (1,1)).1)=_;rw[h];rfl,by show zD ((T[i]?.getD (1,1)).2)=_;rw[h];rfl⟩;have hk:zin ((grG T T.length).map strT)=(keG T).map strT:=by rw[zi3,zuk];rfl
 have hgl:(grG T T.length).length<=T.length:=zw1 T _;have hlen:=hT.len;have hkl:=(zw5 T).2;have hrt:∀t∈T,okQ (t.2:Rat):=λt ht=>zd0 (by omega) (by omega) (zrg (k:=16) (by omega) (hT.nr t ht).len);have hcr:∀(i:Nat) (c:Rat×Nat),c∈grG T i->NrmR c.2:=λi c hc=>by
  obtain⟨t,ht,e⟩:=zvl i hc;rw[<-e];exact hT.nr t ht
 have CK:Hid (∀i,i<T.length->qK 77 #[St (X i)] (.int .i64 0)):=hid λi hi W hW=>by
  obtain⟨t,ht⟩:=at_ i hi;rw[(hX i t ht).1];exact zfj t.1 (zd0 (by omega) (by omega) (hT.tsz t (List.mem_of_getElem? ht))) W hW
 have RK:Hid (∀i,i<T.length->qK 77 #[St (Y i)] (.int .i64 0)):=hid λi hi W hW=>by
  obtain⟨t,ht⟩:=at_ i hi;rw[(hX i t ht).2];have:=zfj (t.2:Rat) (hrt t (List.mem_of_getElem? ht)) W hW;rw[zhe] at this;exact this
 have PF:Hid (∀i,i<T.length->∀W:zA,zC zF 96 #[St (Y i),.string ⟨#[45]⟩] W λe w'=>e=.returned (.bool false)/\w'=W):=hid λi hi W=>by
  obtain⟨t,ht⟩:=at_ i hi;rw[(hX i t ht).2];exact zgy t.2 W
 have HT2:Hid (∀i,i<T.length->∃b off,q=some ⟨b,off,none⟩/\b<w.heap.size/\w.cell? ⟨b,off+i*2,none⟩=some (St (X i))/\w.cell? ⟨b,off+i*2+1,none⟩=some (St (Y i))):=hid λi hi=>by
  obtain⟨t,ht⟩:=at_ i hi;rw[(hX i t ht).1,(hX i t ht).2];exact HT.out i t ht
 have VIS:=hid λ(u vg:zA) h1 h2 h3 h4=>z18 T hT X Y hX q cap w HW HP HT u vg h1 h2 h3 h4;have mid:=λc hc=>hT.mid T.length (zN _) c hc;have lng:∀(c:Rat×Nat),c∈grG T T.length->(sz c.1 60->decide (60<(max (digs c.1.num:Int) (digs (c.1.den:Int):Nat)))=false)/\(¬sz c.1 60->decide (60<(max (digs c.1.num:Int) (digs (c.1.den:Int):Nat)))=true):=λc hc=>by
  refine⟨λh=>?_,λh=>?_⟩
  ·have da:=zok (k:=60) (by omega) h
   have da2:digs (c.1.den:Int)<=60:=by rw[zd9];exact da.2
   exact decide_eq_false (by have:=da.1;omega)
  ·refine decide_eq_true ?_
   have:¬(digs c.1.num<=60/\digs (c.1.den:Int)<=60):=λ⟨k1,k2⟩=>h ⟨(za3 _ _ (by omega)).1 k1,by have:=(za3 _ _ (by omega)).1 k2;rwa [Int.natAbs_natCast] at this⟩;omega
 have core:=λ(j0:Nat) (h60:∀(i:Nat) (c:Rat×Nat),i<j0->(grG T T.length)[i]? =some c->c.1≠0->sz c.1 60) EN=>zl0 q cap T.length X Y ((grG T T.length).map strT) ((mkG T).map strT) j0 (by omega) (by rw[zV];omega) CK RK PF w HW HT2 VIS
  (hid λi d hij hd h0=>by
    rw[List.getElem?_map,Option.map_eq_some_iff] at hd;obtain⟨c,hc,rfl⟩:=hd;have hmc:=List.mem_of_getElem? hc;have hne:c.1≠0:=λe=>by
     have:((strT c).1==[48])=true:=by unfold strT;rw[e];simp[zie]
     rw[this] at h0;cases h0
    have s60:=h60 i c hij hc hne;have hn:=hcr _ c hmc;have sr:sz (c.2:Rat) 16:=zrg (by omega) hn.len;have dr:=zok (k:=16) (by omega) sr;have dr2:digs ((c.2:Rat).den:Int)<=16:=by rw[zd9];exact dr.2
    refine⟨max (digs c.1.num:Int) (digs (c.1.den:Int):Nat),max (digs (c.2:Rat).num:Int) (digs ((c.2:Rat).den:Int):Nat),λW hW=>znp c.1 (zd0 (by omega) (by omega) s60) W hW,λW hW=>?_,(lng c hmc).1 s60,decide_eq_false (by have:=dr.1;omega)⟩;have:=znp (c.2:Rat) (zd0 (by omega) (by omega) sr) W hW;rw[zhe] at this;exact this) EN
 rcases zyf (λc:Rat×Nat=>!decide (c.1=0)&&!decide (sz c.1 60)) (grG T T.length) with hgood|⟨j,c,hj,hb,hbe⟩
 ·have h60:∀c∈grG T T.length,c.1≠0->sz c.1 60:=λc hc hne=>by simpa [hne] using hgood c hc
  refine(core (grG T T.length).length (λi c _ hc hne=>h60 c (List.mem_of_getElem? hc) hne) (hid (.inl ⟨by rw[zV],by rw[hk,zV];omega,λB W p c h1 h2 h3 h4=>by
   rw[hk,zV] at h4⊢;have hp:PosR T:=λt ht=>by have:=(hT.nr t ht).pos;exact_mod_cast this
   exact z34 B (keG T) (by omega) (z1u hp) (λt ht=>by
    have h2:=List.mem_filter.1 ht;rw[<-zuk] at h2;exact hcr _ t h2.1) p c W (hid λV hV=>HW.out V (h1.trans (hV.mono h2))) h3 h4⟩))).mono λe w' ⟨q',m,c',r,e1,hb,h⟩=>?_
  rcases h with⟨rfl,_,rfl,ho⟩|⟨_,h,_⟩
  ·refine⟨_,_,_,_,e1,hb,.inl ⟨rfl,?_,λc hc=>h60 c (zx8 hc).1 (zx8 hc).2⟩⟩
   rw[hk,zV] at ho;have:(keG T).length=(mkG T).length:=(zw5 T).1.symm;rw[hk,zV];exact SdL.own ho this
  ·rw[zV] at h;omega
 ·have hmc:=List.mem_of_getElem? hj
  rw[Bool.and_eq_true,Bool.not_eq_true',Bool.not_eq_true',decide_eq_false_iff_not,decide_eq_false_iff_not] at hb;have hjl:=(List.getElem?_eq_some_iff.1 hj).1;refine(core j (λi c hij hc hne=>by simpa [hne] using hbe i c hij hc) (hid (.inr ⟨(strT c).1,(strT c).2,_,by rw[List.getElem?_map,hj];rfl,zsf hb.1,(lng c hmc).2 hb.2,λW hW=>znp c.1 (zd0 (k:=140) (by omega) (by omega) (mid c hmc)) W hW⟩))).mono λe w' ⟨q',m,c',r,e1,hb',h⟩=>?_;rcases h with⟨_,h,_⟩|⟨rfl,_,rfl,rfl,rfl⟩
  ·rw[zV] at h;omega
  ·refine⟨_,_,_,_,e1,hb',.inr ⟨rfl,rfl,λh=>hb.2 (h c ((zvb c _).2 ?_))⟩⟩
   unfold keG;rw[<-zuk];exact List.mem_filter.2 ⟨hmc,by simp[hb.1]⟩
theorem zjg (T:List (Rat×Nat)) (hlen:T.length<=256) (hz:∀t∈T,t.1=0) (hr:∀t∈T,NrmR t.2) (v:Value) (w:zA) (HW:Hid (∀W,qL w W->Wd W)) (hs:SdL v T w):
 zC zF 52 #[v] w λe w'=>∃v',e=.returned (.tuple #[v',.int .i64 0])/\zB w.heap.size w w'/\SdL v' [] w':=by
 obtain⟨p,cap,rfl, -,hx⟩:=hs.slice;have n0:=nm0;have d0:∀t∈T,numS t.1=[48]:=λt ht=>by rw[hz t ht,n0]
 let Y:Nat->List UInt8:=λi=>zD ((T[i]?.getD (0,1)).2);have at_:∀i,i<T.length->∃t,T[i]? =some t:=λi hi=>⟨_,yB hi⟩;have hY:∀i t,T[i]? =some t->Y i=zD t.2:=λi t h=>by show zD ((T[i]?.getD (0,1)).2)=_;rw[h];rfl
 have hm:=zl0 p cap T.length (λ_=>[48]) Y [] [] 0 hlen (by simp)
  (hid λi hi W hW=>by have:=zfj 0 (zm5 zb7.1) W hW;rw[n0] at this;exact this)
  (hid λi hi W hW=>by
    obtain⟨t,ht⟩:=at_ i hi;rw[hY i t ht];have hn:=hr t (List.mem_of_getElem? ht);have:=zfj (t.2:Rat) (zd0 (by omega) (by omega) (zrg (k:=16) (by omega) hn.len)) W hW;rw[zhe] at this;exact this)
  (hid λi hi W=>by
    obtain⟨t,ht⟩:=at_ i hi;rw[hY i t ht];exact zgy t.2 W)
  w HW
  (hid λi hi=>by
    obtain⟨t,ht⟩:=at_ i hi;obtain⟨b,off,e,hb,c0,c1⟩:=hx i t ht;rw[d0 t (List.mem_of_getElem? ht)] at c0;rw[hY i t ht];exact⟨b,off,e,hb,c0,c1⟩)
  (hid λu vg h1 h2 h3 h4=>by
    have hB:qL w vg:=h1.trans (h2.mono h1.size);refine(zmd p cap T.length Y _ (by omega) vg (hid λi hi=>?_)).mono λe w' ⟨e1,hb⟩=>⟨e1,hb.mono h2.size,h4.keep (zac hb)⟩;obtain⟨t,ht⟩:=at_ i hi;obtain⟨b,off,e,hb,c0,c1⟩:=hx i t ht;rw[d0 t (List.mem_of_getElem? ht)] at c0;rw[hY i t ht];exact⟨b,off,e,zai hB c0,zai hB c1⟩)
  (hid λi c hi _ _=>by omega)
  (hid (.inl ⟨rfl,by simp[zin],λB W q c h1 h2 h3 h4=>z34 B [] (by simp) List.Pairwise.nil (λt h=>by cases h) q c W (hid λV hV=>HW.out V (h1.trans (hV.mono h2))) h3 h4⟩))
 refine hm.mono λe w' ⟨q',m,c',r,e1,hb,h⟩=>?_;rcases h with⟨rfl,_,rfl,ho⟩|⟨_,h,_⟩
 ·exact⟨_,e1,hb,SdL.own (l:=[]) ho rfl⟩
 ·exact absurd h (by simp)
end
section
open Go.RowKit Go.Shelf Lib Str Limb Geo
attribute [local go_sem] Oper.semAt_some
def GoT (x y:List UInt8) (c:Rat) (r:Nat):Prop:=x=numS c/\sz c 8/\y=zD r/\r<10^8/\TrmR c r
def GoE (x y:List UInt8):Prop:=∃c r,GoT x y c r
theorem z6b {q:Rat} (h1:Lib.hasPrefix (numS q) [45]=false) (h2:decide (0<=Lib.indexByte (numS q) 47)=false):∃n:Nat,numS q=zD n/\q=(n:Rat):=by
 have hd:q.den=1:=by
  rw[<-Lib.contains_iff_indexByte,Bool.eq_false_iff] at h2;refine Classical.byContradiction λhd=>h2 (List.contains_iff_mem.2 ?_);unfold numS;rw[if_neg hd];exact List.mem_append_right _ (List.mem_cons_self ..)
 have e:numS q=itoa q.num:=by unfold numS;rw[if_pos hd,yH]
 have hn:¬q.num<0:=λhn=>by
  rw[e,zdx,decide_eq_true hn] at h1;cases h1
 obtain⟨n,hnn⟩:∃n:Nat,q.num=(n:Int):=⟨q.num.toNat,by omega⟩;refine⟨n,by rw[e,hnn,Str.zad],?_⟩;have:=Rat.num_divInt_den q;rw[hd,hnn] at this;rw[<-this,<-z2p n 1,show((1:Nat):Rat)=1 by decide+kernel];grind
theorem z6t (x:List UInt8) (W:zA):qJ 96 #[St x,.string ⟨#[45]⟩] W (.bool (Lib.hasPrefix x [45])):=by
 have:=Tryz.strings_HasPrefix ⟨x.toArray⟩ ⟨#[45]⟩ W;refine this.mono ?_;rintro e w' ⟨rfl,rfl⟩;exact⟨rfl,zM _ _⟩
theorem z6e (x:List UInt8) (W:zA):qJ 121 #[St x,.string ⟨#[47]⟩] W (.bool (decide (0<=Lib.indexByte x 47))):=by
 have:=Tryz.strings_Contains_one ⟨x.toArray⟩ 47 W;refine this.mono ?_;rintro e w' ⟨rfl,rfl⟩;exact⟨rfl,zM _ _⟩
theorem z4l (x y:List UInt8) (hx:shT x) (hy:shT y) (w:zA) (hw:Wd w) (hp:Pw w):
 zC zF 80 #[.agg #[St x,St y]] w (ErrP w (GoE x y)):=by
 obtain⟨lx,c,rfl,hc⟩:=hx;obtain⟨ly,q,rfl,hq⟩:=hy;have sc:=zto (by omega) lx;have sq:=zto (by omega) ly;have dc:=zok (k:=8) (by omega) sc;have dq:=zok (k:=8) (by omega) sq;have dc2:digs (c.den:Int)<=8:=by rw[zd9];exact dc.2
 have dq2:digs (q.den:Int)<=8:=by rw[zd9];exact dq.2
 have d1:zD 1=[49]:=by rw[zae (by omega)];rfl
 have hnz:(ByteArray.toList ⟨(numS c).toArray⟩==[48])=false->c≠0:=λh e=>by
  rw[ByteArray.toList_eq,beq_eq_false_iff_ne] at h;exact h (by rw[e];exact zie)
 refine z3l ⟨(numS c).toArray⟩ ⟨(numS q).toArray⟩ _ _ _ _ (by have:=dc.1;omega) (by have:=dq.1;omega) (hid λW hW=>zfj c hc W hW) (hid λW hW=>zfj q hq W hW) (hid λW hW=>znp c hc W hW) (hid λW hW=>znp q hq W hW) (hid λW=>z6t (numS q) W) (hid λW=>z6e (numS q) W) (GoE (numS c) (numS q)) (hid λh0 h1=>?_) (hid λh0 h1 h2 h3=>?_) w (hid hw) (hid hp)
 ·rw[ByteArray.toList_eq,beq_iff_eq] at h1
  have h1:numS q=[49]:=h1;exact⟨c,1,rfl,sc,by rw[h1,d1],by omega,hnz h0,sc.mono (by omega),zyl.1⟩
 ·obtain⟨n,hn,hqn⟩:=z6b h1 h2
  have hl:(zD n).length<=8:=by rw[<-hn];exact ly
  have hlt:n<10^8:=(zaf n 8 (by omega)).1 hl;have n0:0<n:=by
   rw[ByteArray.toList_eq,beq_eq_false_iff_ne] at h3;refine yS λe=>h3 ?_;show numS q=[48];rw[hn,e];exact zdj
  rw[hn];refine⟨⟨(zD (zn7 n).1).toArray⟩,⟨(zD (zn7 n).2).toArray⟩,λhk hl2=>?_,λW hW hP=>z4c n n0 (by omega) W hW hP⟩;rw[ByteArray.toList_eq,beq_iff_eq] at hk;rw[ByteArray.toList_eq,ByteArray.toList_eq,beq_iff_eq] at hl2;have hk:zD (zn7 n).1=zD 1:=by rw[d1];exact hk
  have hl2:zD (zn7 n).2=zD n:=hl2;have inj:∀a b:Nat,zD a=zD b->a=b:=λa b h=>by
   rw[<-Str.zad,<-Str.zad] at h;have:=zdo h;omega
  exact⟨c,n,rfl,sc,rfl,hlt,hnz h0,sc.mono (by omega),n0,by omega,Prod.ext (inj _ _ hk) (inj _ _ hl2)⟩
def SdT (v:Value) (l:List (List UInt8×List UInt8)) (W:zA):Prop:=
 (v=.slice none 0 0/\l=[])\/∃b off cap,v=.slice (some ⟨b,off,none⟩) l.length cap/\l.length<=cap/\b<W.heap.size/\
   ∀i t,l[i]? =some t->W.cell? ⟨b,off+i*2,none⟩=some (St t.1)/\W.cell? ⟨b,off+i*2+1,none⟩=some (St t.2)
theorem SdT.below {v:Value} {l:List (List UInt8×List UInt8)} {W W':zA} (h:SdT v l W) (hb:qL W W'):SdT v l W':=by
 rcases h with h|⟨b,off,cap,e,hc,hl,hx⟩
 ·exact .inl h
 ·exact .inr ⟨b,off,cap,e,hc,Nat.lt_of_lt_of_le hl hb.size,λi t ht=>⟨zai hb (hx i t ht).1,zai hb (hx i t ht).2⟩⟩
theorem SdT.slice {v:Value} {l:List (List UInt8×List UInt8)} {W:zA} (h:SdT v l W):∃p cap,v=.slice p l.length cap/\l.length<=cap/\∀i t,l[i]? =some t->∃b off,p=some ⟨b,off,none⟩/\b<W.heap.size/\W.cell? ⟨b,off+i*2,none⟩=some (St t.1)/\W.cell? ⟨b,off+i*2+1,none⟩=some (St t.2):=by
 rcases h with⟨rfl,rfl⟩|⟨b,off,cap,e,hc,hl,hx⟩
 ·exact⟨none,0,rfl,zN _,λi t ht=>by simp at ht⟩
 ·exact⟨_,cap,e,hc,λi t ht=>⟨b,off,rfl,hl,hx i t ht⟩⟩
theorem SdT.any {v:Value} {l:List (List UInt8×List UInt8)} {W:zA} (h:SdT v l W):∃q n c,v=.slice q n c:=by
 obtain⟨p,cap,e, -⟩:=h.slice;exact⟨_,_,_,e⟩
theorem SdT.sd {v:Value} {l:List (List UInt8×List UInt8)} {D:List (Rat×Nat)} {W:zA} (h:SdT v l W) (e:l=D.map strT):SdL v D W:=by
 subst e;rcases h with⟨h1,h2⟩|⟨b,off,cap,e,hc,hl,hx⟩
 ·exact .inl ⟨h1,by simpa using h2⟩
 ·rw[zV] at e hc
  exact .inr ⟨b,off,cap,e,hc,hl,λi t ht=>hx i (strT t) (by rw[List.getElem?_map,ht];rfl)⟩
def GoS (l:List (List UInt8×List UInt8)) (D:List (Rat×Nat)):Prop:=l=D.map strT/\SdOk D/\D.length<=2/\∀t∈D,sz t.1 8/\t.2<10^8
def ShS (l:List (List UInt8×List UInt8)):Prop:=l.length<=2/\∀t∈l,shT t.1/\shT t.2
theorem z0d {l:List (List UInt8×List UInt8)} (hl:l.length<=2) (hP:∀(i:Nat) (t:List UInt8×List UInt8),l[i]? =some t->GoE t.1 t.2)
 (hO:∀(t u:List UInt8×List UInt8) (c d:Rat) (r s:Nat),l=[t,u]->GoT t.1 t.2 c r->GoT u.1 u.2 d s->r<s/\z5c (s:Rat) (r:Rat)=false):∃D,GoS l D:=by
 match l,hl with
 |[],_=>exact⟨[],rfl,SdOk.nil,by simp,λt h=>by cases h⟩
 |[t],_=>
  obtain⟨c,r,h1,h2,h3,h4,h5⟩:=hP 0 t rfl;refine⟨[(c,r)],by simp[strT,<-h1,<-h3],SdOk.one h5,by simp,λu hu=>?_⟩;simp at hu;subst hu;exact⟨h2,h4⟩
 |[t,u],_=>
  obtain⟨c,r,hg⟩:=hP 0 t rfl;obtain⟨d,s,hh⟩:=hP 1 u rfl;obtain⟨hlt,ha⟩:=hO t u c d r s rfl hg hh;obtain⟨h1,h2,h3,h4,h5⟩:=hg;obtain⟨k1,k2,k3,k4,k5⟩:=hh;have pr:(0:Rat)<(r:Rat):=by have:=h5.nr.pos;exact_mod_cast this
  have ps:(0:Rat)<(s:Rat):=by have:=k5.nr.pos;exact_mod_cast this
  refine⟨[(c,r),(d,s)],by simp[strT,<-h1,<-h3,<-k1,<-k3],⟨by simp,λv hv=>?_,λi a b h1 h2=>?_,λi k a b hik h1 h2=>?_⟩,by simp,λv hv=>?_⟩
  ·simp at hv
   rcases hv with rfl|rfl
   ·exact h5
   ·exact k5
  ·match i with
   |0=>simp at h1 h2;subst h1;subst h2;exact hlt
   |i+1=>simp at h2
  ·match i,k with
   |0,0=>exact absurd rfl hik
   |0,1=>simp at h1 h2;subst h1;subst h2;exact ha
   |1,0=>simp at h1 h2;subst h1;subst h2;exact zu9 ps pr ha
   |1,1=>exact absurd rfl hik
   |i+2,_=>simp at h1
   |_,k+2=>simp at h2
  ·simp at hv
   rcases hv with rfl|rfl
   ·exact⟨h2,h4⟩
   ·exact⟨k2,k4⟩
theorem zxy (v:Value) (l:List (List UInt8×List UInt8)) (hl:ShS l) (w:zA) (hw:Wd w) (hp:Pw w) (hv:SdT v l w):
 zC zF 37 #[v] w (ErrP w (∃D,GoS l D)):=by
 obtain⟨p,cap,rfl,hc,hx⟩:=hv.slice;let X:Nat->ByteArray:=λi=>⟨((l[i]?.getD ([],[])).1).toArray⟩;let Y:Nat->ByteArray:=λi=>⟨((l[i]?.getD ([],[])).2).toArray⟩;have at_:∀i,i<l.length->∃t,l[i]? =some t:=λi hi=>⟨_,yB hi⟩;have hX:∀(i:Nat) (t:List UInt8×List UInt8),l[i]? =some t->Value.string (X i)=St t.1/\Value.string (Y i)=St t.2:=λi t h=>⟨by show Value.string ⟨((l[i]?.getD ([],[])).1).toArray⟩=_;rw[h];rfl,by show Value.string ⟨((l[i]?.getD ([],[])).2).toArray⟩=_;rw[h];rfl⟩;have key:∀t u:List UInt8×List UInt8,l=[t,u]->∀c d r s,GoT t.1 t.2 c r->GoT u.1 u.2 d s->(∃c0:Int,(c0<0->r<s)/\qK 81 #[St t.2,St u.2] (.tuple #[.int .i64 c0,.int .i64 0])):=λt u _ c d r s hg hh=>by
  obtain⟨h1,h2,h3,h4,h5⟩:=hg;obtain⟨k1,k2,k3,k4,k5⟩:=hh;have sr:sz (r:Rat) 16:=zrg (by omega) h5.nr.len;have ss:sz (s:Rat) 16:=zrg (by omega) k5.nr.len;refine⟨cmpR (r:Rat) (s:Rat),λh=>?_,λW hW=>?_⟩
  ·have hc:=zaw (r:Rat) (s:Rat)
   have:(r:Rat)<(s:Rat):=by grind
   exact_mod_cast this
  ·have:=zgq (r:Rat) (s:Rat) 16 16 (by omega) (by omega) (by omega) sr ss W hW
   rw[zhe,zhe] at this;rw[h3,k3];exact this
 let OR:Prop:=∀t u c d r s,l=[t,u]->GoT t.1 t.2 c r->GoT u.1 u.2 d s->r<s;let UL:Prop:=∀t u c d r s,l=[t,u]->GoT t.1 t.2 c r->GoT u.1 u.2 d s->z5c ((s:Nat):Rat) ((r:Nat):Rat)=false;have two:1<l.length->∃t u,l=[t,u]:=λh=>by
  match l,hl.1,h with
  |[t,u],_,_=>exact⟨t,u,rfl⟩
 have uniq:∀{x y:List UInt8} {c d:Rat} {r s:Nat},GoT x y c r->GoT x y d s->r=s:=λh1 h2=>by
  have e:=h1.2.2.1.symm.trans h2.2.2.1;rw[<-Str.zad,<-Str.zad] at e;have:=zdo e;omega
 have main:=zzl p cap l.length X Y hl.1 hc (λi=>∀t,l[i]? =some t->GoE t.1 t.2) OR UL
  (hid λi hi W hW hP=>by
    obtain⟨t,ht⟩:=at_ i hi;rw[(hX i t ht).1,(hX i t ht).2];have hm:=hl.2 t (List.mem_of_getElem? ht);refine(z4l t.1 t.2 hm.1 hm.2 W hW hP).mono λe w' ⟨r,e1,e2,e3⟩=>⟨r,e1,λh t' ht'=>?_,e3⟩;rw[ht] at ht';injection ht' with ht';subst ht';exact e2 h)
  (hid λh1 h2 h3=>by
    obtain⟨t,u,e⟩:=two h1;have ht:l[0]? =some t:=by rw[e];rfl
    have hu:l[1]? =some u:=by rw[e];rfl
    obtain⟨c,r,hg⟩:=h2 t ht;obtain⟨d,s,hh⟩:=h3 u hu;obtain⟨c0,k1,k2⟩:=key t u e c d r s hg hh;rw[(hX 0 t ht).2,(hX 1 u hu).2];refine⟨c0,λh t' u' c' d' r' s' e' hg' hh'=>?_,k2⟩;rw[e] at e';obtain⟨rfl,rfl⟩:t=t'/\u=u':=by simpa using e'
    rw[<-uniq hg hg',<-uniq hh hh'];exact k1 h)
  (hid λh1 h2 h3=>by
    obtain⟨t,u,e⟩:=two h1;have ht:l[0]? =some t:=by rw[e];rfl
    have hu:l[1]? =some u:=by rw[e];rfl
    obtain⟨c,r,hg⟩:=h2 t ht;obtain⟨d,s,hh⟩:=h3 u hu;refine⟨z5c ((s:Nat):Rat) ((r:Nat):Rat),λh t' u' c' d' r' s' e' hg' hh'=>?_,λA W hW hr hA=>?_⟩
    ·rw[e] at e'
     obtain⟨rfl,rfl⟩:t=t'/\u=u':=by simpa using e'
     rw[<-uniq hg hg',<-uniq hh hh'];exact h
    ·obtain⟨b,off,eb,d0,d1⟩:=hr 0 (by omega)
     refine z4k p cap _ A W (hid (z4j p cap _ (X 0) (Y 0) A (λV=>V.cell? ⟨A,1,none⟩=some (.string (Y 1))) (λV V' hv hb=>(zac hb).cell hv) (hid λV hV hc=>?_) W (hid hW) (hid hA) (hid ⟨b,off,eb,by simpa using d0,by simpa using d1⟩)));have gr:=hg.2.2.1;have gs:=hh.2.2.1;have nr:=hg.2.2.2.2.nr;have ns:=hh.2.2.2.2.nr;cases ea:z5c ((s:Nat):Rat) ((r:Nat):Rat)
     ·refine z6w _ _ ⟨#[]⟩ false A _ (hid λU hU=>?_) V (hid hV) (hid hc)
      rw[(hX 1 u hu).2,(hX 0 t ht).2,gr,gs];exact zf4 s r ns nr ea U hU
     ·refine z6w _ _ ⟨(numS (rt ((s:Rat)/(r:Rat)))).toArray⟩ true A _ (hid λU hU=>?_) V (hid hV) (hid hc)
      rw[(hX 1 u hu).2,(hX 0 t ht).2,gr,gs];exact zr8 s r ns nr ea U hU)
  w (hid hw) (hid hp) (hid λi hi=>by
    obtain⟨t,ht⟩:=at_ i hi;obtain⟨b,off,e,_,c0,c1⟩:=hx i t ht;rw[(hX i t ht).1,(hX i t ht).2];exact⟨b,off,e,c0,c1⟩)
 refine main.mono λe w' ⟨r,e1,e2,e3⟩=>⟨r,e1,λh=>?_,e3⟩;obtain⟨hP,hO⟩:=e2 h;refine z0d hl.1 (λi t ht=>hP i (List.getElem?_eq_some_iff.1 ht).1 t ht) λt u c d r s el hg hh=>?_;have h1:1<l.length:=by rw[el];simp
 exact⟨(hO h1).1 t u c d r s el hg hh,(hO h1).2 t u c d r s el hg hh⟩
end
section
open Go.RowKit Go.Shelf Lib Str Limb
open Go.ChangeShapes Go.WideShapes Go.ChangeAt
theorem z11 {α:Type} (P:Nat->α->Prop):∀n,(∀i,i<n->∃x,P i x)->∃l:List α,l.length=n/\∀i (h:i<l.length),P i l[i]
 |0,_=>⟨[],rfl,λi h=>by simp at h⟩
 |n+1,h=>by
  obtain⟨l,hl,hP⟩:=z11 P n (λi hi=>h i (by omega));obtain⟨x,hx⟩:=h n (by omega);refine⟨l++[x],by simp[hl],λi hi=>?_⟩;by_cases e:i<l.length
  ·rw[List.getElem_append_left e];exact hP i e
  ·have:i=n:=by simp at hi;omega
   subst this;rw[List.getElem_append_right (by omega)];simpa using hx
theorem z0k {P:Program} {W:zA} {r:Reach} {base:Nat} {t e:TypeId} {a:Addr} {n c:Nat} (ht:P.underlying t=some (.slice e)) (h:Cell.okWide P W r base t (.slice (some a) n c)):a.spot=none/\a.block<W.heap.size:=by
 simp only[Cell.okWide,ht,Cell.ok] at h;obtain⟨_,_,_,h1,row,cells,h2,_⟩:=h;refine⟨h1,?_⟩;refine Classical.byContradiction λhn=>?_;have:W.heap[a.block]? =none:=by simp;omega
 unfold World.shape? at h2;simp[this] at h2
theorem zu8 {H:Type} {enc:TypeId×Value->H} {W:zA} {base fuel:Nat} {sp:Nat->Bool} {held:Bool} {cs:List Value} {x:DataW H×List MemPlace}
 (hd:DataW.trod enc zF W base sp held fuel 24 cs=some x) (hin:∀a n c,cs=[.slice (some a) n c]->a.spot=none/\a.block<W.heap.size):∃v l,cs=[v]/\SdT v l W:=by
 rcases DataW.trod_slice Tryz.underlying24 hd with⟨hcs,hx⟩|⟨a,len,cap,elems,rest,n,_,hcs,hx,hb,hl,hm,hlen,hel,_,_⟩
 ·exact⟨_,[],hcs,.inl ⟨rfl,rfl⟩⟩
 obtain⟨hsp,hbl⟩:=hin a len cap hcs;rw[show Tryz.prog.cellsOf 66=2 by kernel_rfl] at hel;have each:∀i,i<len->∃x:List UInt8×List UInt8,W.cell? (a.add (i*2))=some (St x.1)/\W.cell? ((a.add (i*2)).add 1)=some (St x.2):=by
  intro i hi;have h1:=hel i hi;rw[yB (by omega),Option.bind_eq_some_iff] at h1;obtain⟨cs,hcs,htr⟩:=h1;obtain⟨_,hcl,hce⟩:=World.cells?_some hcs;obtain⟨y0,y1,n',_,_,h0,h1⟩:=trod_struct2 Tryz.underlying66 htr;obtain⟨s0,e0,_,_⟩:=DataW.trod_string Tryz.underlying22 h0;obtain⟨s1,e1,_,_⟩:=DataW.trod_string Tryz.underlying22 h1;rw[show Tryz.prog.cellsOf 22=1 by kernel_rfl] at e0 e1
  match cs,hcl with
  |[c0,c1],_=>
   have k0:c0=.string s0:=by simpa using e0
   have k1:c1=.string s1:=by simpa using e1
   subst k0;subst k1;have g0:=hce 0 (by omega);have g1:=hce 1 (by omega);refine⟨(s0.data.toList,s1.data.toList),?_,?_⟩
   ·simpa [St,Addr.add] using g0
   ·simpa [St,Addr.add] using g1
 obtain⟨l,hll,hP⟩:=z11 _ len each;subst hll;obtain⟨b,off,spot⟩:=a;have hspot:spot=none:=hsp;subst hspot;refine⟨_,l,hcs,.inr ⟨b,off,cap,rfl,hl,hbl,λi t ht=>?_⟩⟩;obtain⟨hi,et⟩:=List.getElem?_eq_some_iff.1 ht;obtain⟨h0,h1⟩:=hP i hi;have ap:∀k,(⟨b,off,none⟩:Addr).add k=⟨b,off+k,none⟩:=λk=>by unfold Addr.add;split<;>simp_all
 have ap1:∀k,(⟨b,off+k,none⟩:Addr).add 1=⟨b,off+k+1,none⟩:=λk=>by unfold Addr.add;simp
 rw[ap] at h0 h1;rw[ap1] at h1;rw[<-et];exact⟨h0,h1⟩
theorem z2k {H:Type} {enc:TypeId×Value->H} {W:zA} {base:Nat} {sp:Nat->Bool} {held:Bool} {t:TypeId} {f0 f1 f2:Field} {fuel:Nat} {cs:List Value} {x:DataW H×List MemPlace} (ht:Tryz.prog.underlying t=some (.struct #[f0,f1,f2])) (h:DataW.trod enc zF W base sp held fuel t cs=some x):
 ∃y0 y1 y2 n,x=(.agg [y0.1,y1.1,y2.1],y0.2++y1.2++y2.2)/\DataW.trod enc zF W base sp held n f0.type ((cs.drop f0.offset).take (Tryz.prog.cellsOf f0.type))=some y0/\
  DataW.trod enc zF W base sp held n f1.type ((cs.drop f1.offset).take (Tryz.prog.cellsOf f1.type))=some y1/\DataW.trod enc zF W base sp held n f2.type ((cs.drop f2.offset).take (Tryz.prog.cellsOf f2.type))=some y2:=by
 obtain⟨xs,n,_,rfl, -,hlen,hf⟩:=DataW.trod_struct ht h
 match xs,hlen with
 |[y0,y1,y2],_=>exact⟨y0,y1,y2,n,by simp,by simpa using hf 0 f0 rfl,by simpa using hf 1 f1 rfl,by simpa using hf 2 f2 rfl⟩
theorem z3z {H:Type} {enc:TypeId×Value->H} {W:zA} {base:Nat} {sp:Nat->Bool} {held:Bool} {t:TypeId} {f0 f1 f2 f3:Field} {fuel:Nat} {cs:List Value} {x:DataW H×List MemPlace} (ht:Tryz.prog.underlying t=some (.struct #[f0,f1,f2,f3])) (h:DataW.trod enc zF W base sp held fuel t cs=some x):
 ∃y0 y1 y2 y3 n,DataW.trod enc zF W base sp held n f0.type ((cs.drop f0.offset).take (Tryz.prog.cellsOf f0.type))=some y0/\
  DataW.trod enc zF W base sp held n f1.type ((cs.drop f1.offset).take (Tryz.prog.cellsOf f1.type))=some y1/\DataW.trod enc zF W base sp held n f2.type ((cs.drop f2.offset).take (Tryz.prog.cellsOf f2.type))=some y2/\
  DataW.trod enc zF W base sp held n f3.type ((cs.drop f3.offset).take (Tryz.prog.cellsOf f3.type))=some y3:=by
 obtain⟨xs,n,_,rfl, -,hlen,hf⟩:=DataW.trod_struct ht h
 match xs,hlen with
 |[y0,y1,y2,y3],_=>exact⟨y0,y1,y2,y3,n,by simpa using hf 0 f0 rfl,by simpa using hf 1 f1 rfl,by simpa using hf 2 f2 rfl,by simpa using hf 3 f3 rfl⟩
theorem z0l {W:zA} {r:Reach} {b0:Nat} {t:TypeId} {v:Value} {fs:Array Field} {ts:List TypeId} (ht:Tryz.prog.underlying t=some (.struct fs)) (hts:Tryz.prog.cellTypes Tryz.prog.depth t=some ts) (h:Value.okWide zF W r b0 t v):
 ∃cs:Array Value,v=.agg cs/\cs.size=Tryz.prog.cellsOf t/\∀i c,cs[i]? =some c->∃u,ts[i%ts.length]? =some u/\Cell.okWide zF W r b0 u c:=by
 simp only[Value.okWide,ht] at h;obtain⟨cs,h1,h2,ts',h3,_,h4⟩:=h;rw[hts] at h3;cases h3;exact⟨cs,h1,h2,h4⟩
theorem z30 {H:Type} {enc:TypeId×Value->H} {W:zA} {base:Nat} {sp:Nat->Bool} {held:Bool} {r:Reach} {b0:Nat} {v:Value} {d:DataW H} {ps:List MemPlace}
 (hval:Value.okWide zF W r b0 26 v) (hd:DataW.Trod enc zF W base sp held 26 v d ps):∃(x y z:List UInt8) (u:Value) (l:List (List UInt8×List UInt8)),v=.agg #[St x,St y,St z,u]/\SdT u l W:=by
 obtain⟨cs,rfl,hs,hok⟩:=z0l (ts:=[22,22,22,24]) Tryz.underlying26 (by kernel_rfl) hval;rw[show Tryz.prog.cellsOf 26=4 by kernel_rfl] at hs;obtain⟨fuel,hf⟩:=hd;obtain⟨y0,y1,y2,y3,n,h0,h1,h2,h3⟩:=z3z Tryz.underlying26 hf;obtain⟨s0,e0,_,_⟩:=DataW.trod_string Tryz.underlying22 h0;obtain⟨s1,e1,_,_⟩:=DataW.trod_string Tryz.underlying22 h1;obtain⟨s2,e2,_,_⟩:=DataW.trod_string Tryz.underlying22 h2;rw[show Tryz.prog.cellsOf 22=1 by kernel_rfl] at e0 e1 e2;rw[show Tryz.prog.cellsOf 24=1 by kernel_rfl] at h3;obtain⟨l⟩:=cs
 match l,hs with
 |[c0,c1,c2,c3],_=>
  have k0:c0=.string s0:=by simpa [Value.cells] using e0
  have k1:c1=.string s1:=by simpa [Value.cells] using e1
  have k2:c2=.string s2:=by simpa [Value.cells] using e2
  subst k0;subst k1;subst k2;obtain⟨u,tl,hu,hsd⟩:=zu8 h3 (λa m c hc=>by
   have hc3:c3=.slice (some a) m c:=by simpa [Value.cells] using hc
   obtain⟨u,hu,hcell⟩:=hok 3 c3 rfl;have:u=24:=by simpa using hu.symm
   subst this;subst hc3;exact z0k Tryz.underlying24 hcell)
  have hc3:c3=u:=by simpa [Value.cells] using hu
  subst hc3;exact⟨s0.data.toList,s1.data.toList,s2.data.toList,c3,tl,by simp[St],hsd⟩
theorem z31 {H:Type} {enc:TypeId×Value->H} {W:zA} {base:Nat} {sp:Nat->Bool} {held:Bool} {r:Reach} {b0:Nat} {v:Value} {d:DataW H} {ps:List MemPlace}
 (hval:Value.okWide zF W r b0 30 v) (hd:DataW.Trod enc zF W base sp held 30 v d ps):∃(u0 u1 u2:Value) (l0 l1 l2:List (List UInt8×List UInt8)),v=.agg #[u0,u1,u2]/\SdT u0 l0 W/\SdT u1 l1 W/\SdT u2 l2 W:=by
 obtain⟨cs,rfl,hs,hok⟩:=z0l (ts:=[24,24,24]) Tryz.underlying30 (by kernel_rfl) hval;rw[show Tryz.prog.cellsOf 30=3 by kernel_rfl] at hs;obtain⟨fuel,hf⟩:=hd;obtain⟨y0,y1,y2,n,_,h0,h1,h2⟩:=z2k Tryz.underlying30 hf;rw[show Tryz.prog.cellsOf 24=1 by kernel_rfl] at h0 h1 h2;obtain⟨l⟩:=cs
 match l,hs with
 |[c0,c1,c2],_=>
  have inn:∀(i:Nat) (c:Value),i<3->[c0,c1,c2][i]? =some c->∀a m k,c=.slice (some a) m k->a.spot=none/\a.block<W.heap.size:=λi c hi hc a m k e=>by
   obtain⟨u,hu,hcell⟩:=hok i c (by simpa using hc);have:u=24:=by
    match i,hi with
    |0,_|1,_|2,_=>simpa using hu.symm
   subst this;subst e;exact z0k Tryz.underlying24 hcell
  obtain⟨u0,t0,e0,s0⟩:=zu8 h0 (λa m c hc=>inn 0 c0 (by omega) rfl a m c (by simpa [Value.cells] using hc));obtain⟨u1,t1,e1,s1⟩:=zu8 h1 (λa m c hc=>inn 1 c1 (by omega) rfl a m c (by simpa [Value.cells] using hc));obtain⟨u2,t2,e2,s2⟩:=zu8 h2 (λa m c hc=>inn 2 c2 (by omega) rfl a m c (by simpa [Value.cells] using hc));have k0:c0=u0:=by simpa [Value.cells] using e0
  have k1:c1=u1:=by simpa [Value.cells] using e1
  have k2:c2=u2:=by simpa [Value.cells] using e2
  subst k0;subst k1;subst k2;exact⟨c0,c1,c2,t0,t1,t2,rfl,s0,s1,s2⟩
theorem z80 {l:List (String×DataW Unit)} {W:zA} (hL:laidMet zF l W) (hm:("kingpost/surd.signPlaces",Rows.laid_kingpost_surd_signPlaces)∈l):Spw W:=by
 obtain⟨g,t,cs,fuel,p,hg,ht,hv,hd⟩:=Lib.laidMet.reads hL hm;obtain rfl:g=0:=Option.some.inj (hg.symm.trans (by kernel_rfl));obtain rfl:t=175:=Option.some.inj (ht.symm.trans (by kernel_rfl));have e:(Rows.laid_kingpost_surd_signPlaces:DataW Unit)=Lib.tabData .i64 [4,16,64]:=by kernel_rfl
 rw[e] at hd;have hc:=Lib.cells_of_tab (n:=3) Tryz.underlying175 Tryz.underlying3 (by kernel_rfl) (by kernel_rfl) hd;obtain rfl:cs=spV:=Array.toList_inj.1 (hc.trans (by kernel_rfl));exact⟨hv⟩
end
section
open Go.RowKit Go.Shelf Lib Str Limb
attribute [local go_sem] Oper.semAt_some
theorem z4v {q:Rat} {k:Nat} (h:sz q k):sz (q* -1) k:=by
 rw[Rat.mul_neg,Rat.mul_one];exact⟨by rw[show(-q).num= -q.num from rfl,Int.natAbs_neg];exact h.1,h.2⟩
theorem zvn {l:List (Rat×Nat)} (h:SdOk l):SdOk (sclL l (-1)):=zpk h (by decide) λt ht=>z4v (h.trm t ht).sc
theorem z4w (v1 v2:Value) (l1 l2:List (Rat×Nat)) (ok1:SdOk l1) (ok2:SdOk l2) (hlen:l1.length+l2.length<=12) (w:zA) (HW:Hid (∀W,qL w W->Wd W)) (HP:Hid (∀W,qL w W->Pw W)) (h1:SdL v1 l1 w) (h2:SdL v2 l2 w):
 zC zF 20 #[v1,v2] w (MkOut (mkG (l1++l2)) w):=by
 obtain⟨p1,n1,c1,e1⟩:=h1.any;obtain⟨p2,n2,c2,e2⟩:=h2.any;exact z0n v1 v2 (λv W=>SdL v (l1++l2) W) (λv r W=>MkR (mkG (l1++l2)) v r W) w
  (hid (z6g v1 v2 (λW=>qL w W) (λW W' h h'=>h.trans (h'.mono h.size)) (hid λW hW=>zbh v1 l1 ok1 W (HW.out W hW) (HP.out W hW) (h1.below hW)) (hid λW hW=>zbh v2 l2 ok2 W (HW.out W hW) (HP.out W hW) (h2.below hW)) w (zM _ _)))
  (hid λW b hW k0 k1=>zj8 b v1 v2 l1 l2 (by omega) W (h1.below hW) (h2.below hW) k0 k1)
  (hid λW v hW hv=>z23 (l1++l2) (zz7 ok1 ok2 hlen) v W (hid λV hV=>HW.out V (hW.trans (hV.mono hW.size))) (hid λV hV=>HP.out V (hW.trans (hV.mono hW.size))) hv)
  p1 p2 n1 n2 c1 c2 e1 e2 (hid λv W h=>h.any)
theorem z6n (v1 v2:Value) (l1 l2:List (Rat×Nat)) (ok1:SdOk l1) (ok2:SdOk l2) (hlen:l1.length+l2.length<=12) (w:zA) (HW:Hid (∀W,qL w W->Wd W)) (HP:Hid (∀W,qL w W->Pw W)) (h1:SdL v1 l1 w) (h2:SdL v2 l2 w):
 zC zF 38 #[v1,v2] w (MkOut (mkG (l1++sclL l2 (-1))) w):=by
 obtain⟨p1,c1,e1, -⟩:=h1.slice;obtain⟨p2,c2,e2, -⟩:=h2.slice;have hl2:(sclL l2 (-1)).length=l2.length:=by simp[sclL]
 subst e1;subst e2;exact z0o p1 p2 l1.length l2.length c1 c2 (l1++sclL l2 (-1)).length (λq d W=>SdL (.slice q l2.length d) (sclL l2 (-1)) W) (λq d W=>SdL (.slice q (l1++sclL l2 (-1)).length d) (l1++sclL l2 (-1)) W) (λv r W=>MkR (mkG (l1++sclL l2 (-1))) v r W) w
  (hid (z6g _ _ (λW=>qL w W) (λW W' h h'=>h.trans (h'.mono h.size)) (hid λW hW=>zbh _ l1 ok1 W (HW.out W hW) (HP.out W hW) (h1.below hW)) (hid λW hW=>zbh _ l2 ok2 W (HW.out W hW) (HP.out W hW) (h2.below hW)) w (zM _ _)))
  (hid λW hW=>by
    have:=zkb _ l2 (-1) (by omega) (λt ht=>(ok2.trm t ht).sc.mono (by omega)) (zb7.2.2.2.2.1.mono (by omega)) W (hid λV hV=>HW.out V (hW.trans (hV.mono hW.size))) (h2.below hW);rw[show St (numS (-1))=.string ⟨#[45,49]⟩ by rw[nm_1]] at this;refine this.mono λe w' ⟨v',e1,hb,hv'⟩=>?_;obtain⟨q,d,e2, -⟩:=hv'.slice;rw[hl2] at e2;subst e2;exact⟨q,d,e1,hb,hv'⟩)
  (hid λW q d b hW hb hR k0 k1=>by
    obtain⟨W0,hB0,hR0,hBW⟩:=hR;refine(zj8 b _ _ l1 (sclL l2 (-1)) (by omega) W (h1.below hW) (hR0.below hBW) k0 k1).mono λe w' ⟨v,e1,hb',hv'⟩=>?_;obtain⟨q',d',e2, -⟩:=hv'.slice;subst e2;exact⟨q',d',e1,hb',hv'⟩)
  (hid λW q d hW hv=>z23 _ (zz7 ok1 (zvn ok2) (by omega)) _ W (hid λV hV=>HW.out V (hW.trans (hV.mono hW.size))) (hid λV hV=>HP.out V (hW.trans (hV.mono hW.size))) hv)
theorem zr3:∀{l:List (Rat×Nat)},(∀i t u,l[i]? =some t->l[i+1]? =some u->t.2<u.2)->IncS l
 |[],_=>List.Pairwise.nil
 |[t],_=>List.pairwise_singleton _ _
 |t::u::l,h=>by
  have h1:IncS (u::l):=zr3 λi a b ha hb=>h (i+1) a b (by simpa using ha) (by simpa using hb);have h2:=h 0 t u rfl rfl;refine List.pairwise_cons.2 ⟨λc hc=>?_,h1⟩;rcases List.mem_cons.1 hc with rfl|hc
  ·exact h2
  ·have:=(List.pairwise_cons.1 h1).1 c hc;omega
theorem zt2 {T:List (Rat×Nat)} (h:ULs T):T.foldl gaG []=T:=by
 have:=zyd (r:=[]) h T.length (zN _);rw[yH,zuk,List.take_length] at this;exact this
theorem zr6 {l:List (Rat×Nat)} (h:SdOk l) {c:Rat} (hc:c≠0) (hl:l.length<=12) (hs:∀t∈l,sz (t.1*c) 140):MkGT (sclL l c)/\mkG (sclL l c)=sclL l c:=by
 have at_:∀{i:Nat} {t:Rat×Nat},(sclL l c)[i]? =some t->∃u,l[i]? =some u/\t=(u.1*c,u.2):=λhi=>by
  unfold sclL at hi;rw[List.getElem?_map,Option.map_eq_some_iff] at hi;obtain⟨u,h1,h2⟩:=hi;exact⟨u,h1,h2.symm⟩
 have mem:∀{t:Rat×Nat},t∈sclL l c->∃u∈l,t=(u.1*c,u.2):=λht=>by
  obtain⟨u,h1,h2⟩:=List.mem_map.1 ht;exact⟨u,h1,h2.symm⟩
 have hu:ULs (sclL l c):=λi k t u hik ht hk=>by
  obtain⟨a,ha,rfl⟩:=at_ ht;obtain⟨b,hb,rfl⟩:=at_ hk;exact h.uls i k a b hik ha hb
 have hn:∀t∈sclL l c,t.1≠0:=λt ht=>by
  obtain⟨u,hu,rfl⟩:=mem ht;have:=(h.trm u hu).ne;intro e;rcases Rat.mul_eq_zero.1 e with e|e
  ·exact this e
  ·exact hc e
 have hp:PosR (sclL l c):=λt ht=>by
  obtain⟨u,hu,rfl⟩:=mem ht;exact h.pos u hu
 have hi:IncS (sclL l c):=zr3 λi t u ht hk=>by
  obtain⟨a,ha,rfl⟩:=at_ ht;obtain⟨b,hb,rfl⟩:=at_ hk;exact h.inc i a b ha hb
 have hk:keG (sclL l c)=sclL l c:=by
  unfold keG;rw[zt2 hu];exact List.filter_eq_self.2 λt ht=>by simp[hn t ht]
 refine⟨⟨by simp[sclL,hl],hn,λt ht=>?_,λt ht=>?_,λi hi c' hc'=>?_⟩,?_⟩
 ·obtain⟨u,hu,rfl⟩:=mem ht;exact hs u hu
 ·obtain⟨u,hu,rfl⟩:=mem ht;exact(h.trm u hu).nr
 ·have:=zyd (r:=[]) hu i hi
  rw[yH] at this;rw[this] at hc';obtain⟨u,hu,rfl⟩:=mem (List.mem_of_mem_take hc');exact hs u hu
 ·have hd:=z1u hp
  unfold mkG;rw[hk] at hd⊢;exact z1q (zxo hd) hi λc=>zvb c _
theorem z4g (l:List (Rat×Nat)):sclL l 1=l:=by simp[sclL,Rat.mul_one]
theorem zmx {l:List (Rat×Nat)} (h:SdOk l):mkG l=l:=by
 have:=(zr6 h (c:=1) (by decide) h.len λt ht=>by rw[Rat.mul_one];exact(h.trm t ht).sc.mono (by omega)).2;rwa [z4g] at this
theorem zeu (v:Value) (l:List (Rat×Nat)) (c:Rat) (h:SdOk l) (hl:l.length<=12) (hc:sz c 150) (hs:∀t∈l,sz (t.1*c) 140) (w:zA) (HW:Hid (∀W,qL w W->Wd W)) (HP:Hid (∀W,qL w W->Pw W)) (hv:SdL v l w):
 zC zF 42 #[v,St (numS c)] w (MkOut (sclR l c) w):=by
 obtain⟨p1,n1,c1,e1⟩:=hv.any;refine zlb v (numS c) (λv W=>SdL v (sclL l c) W) (λv r W=>MkR (sclR l c) v r W) w
  (hid (zbh v l h w (HW.out w (zM _ _)) (HP.out w (zM _ _)) hv))
  (hid λW hW=>zfj c (zd0 (by omega) (by omega) hc) W (HW.out W hW))
  (hid λW hW=>zkb v l c (by have:=h.len;omega) (λt ht=>(h.trm t ht).sc.mono (by omega)) hc W (hid λV hV=>HW.out V (hW.trans (hV.mono hW.size))) (hv.below hW))
  (hid λW v' hW hv'=>?_) p1 n1 c1 e1 (hid λv W h=>h.any)
 have HW':Hid (∀V,qL W V->Wd V):=hid λV hV=>HW.out V (hW.trans (hV.mono hW.size));have HP':Hid (∀V,qL W V->Pw V):=hid λV hV=>HP.out V (hW.trans (hV.mono hW.size));by_cases e:c=0
 ·have hr:sclR l c=[]:=by unfold sclR;rw[if_pos e]
  rw[hr];refine(zjg (sclL l c) (by have:=h.len;simp[sclL];omega) (λt ht=>?_) (λt ht=>?_) v' W HW' hv').mono λe' w' ⟨u,h1,h2,h3⟩=>?_
  ·obtain⟨u,hu,rfl⟩:=List.mem_map.1 ht
   show u.1*c=0;rw[e,Rat.mul_zero]
  ·obtain⟨u,hu,rfl⟩:=List.mem_map.1 ht
   exact(h.trm u hu).nr
  ·obtain⟨q,n,k,rfl⟩:=h3.any
   exact⟨q,n,k,0,h1,h2,.inl ⟨rfl,h3,λc hc=>by cases hc⟩⟩
 ·have hr:sclR l c=sclL l c:=by unfold sclR;rw[if_neg e]
  obtain⟨hT,hm⟩:=zr6 h e hl hs;rw[hr,<-hm];have hv2:SdL v' (sclL l c) W:=hv';exact z23 (sclL l c) hT v' W HW' HP' hv2
def rs (q:Rat):List (Rat×Nat):=if q=0 then[] else[(q,1)]
theorem za2:rs 0=[]:=by unfold rs;rw[if_pos rfl]
theorem zbz {q:Rat} (h:q≠0):rs q=[(q,1)]:=by unfold rs;rw[if_neg h]
theorem zc8 {q:Rat} (h:sz q 60):SdOk (rs q):=by
 unfold rs;split
 ·exact SdOk.nil
 ·exact SdOk.one ⟨by assumption,h,zyl.1⟩
theorem zd2 {q:Rat} {t:Rat×Nat} (h:t∈rs q):t=(q,1)/\q≠0:=by
 unfold rs at h;split at h
 ·cases h
 ·simp at h;exact⟨h,by assumption⟩
theorem zls (a:Rat) {c:Rat} (hc:c≠0):sclL (rs a) c=rs (a*c):=by
 by_cases h:a=0
 ·rw[h,Rat.zero_mul,za2];rfl
 ·rw[zbz h,zbz (λe=>by rcases Rat.mul_eq_zero.1 e with e|e;exact h e;exact hc e)];rfl
theorem zrm (a c:Rat):sclR (rs a) c=rs (a*c):=by
 unfold sclR;split
 ·rename_i h;rw[h,Rat.mul_zero,za2]
 ·rename_i h;exact zls a h
theorem ztj (a b:Rat):gaG [(a,1)] (b,1)=[(a+b,1)]:=by
 have h1:z5c ((1:Nat):Rat) ((1:Nat):Rat)=true:=by decide+kernel
 have h2:rt (((1:Nat):Rat)/((1:Nat):Rat))=1:=by decide+kernel
 show(if z5c ((1:Nat):Rat) ((1:Nat):Rat)=true then[plG (a,1) (b,1)] else _)=_;rw[if_pos h1];unfold plG;rw[if_neg (by simp)];show[(a+b*rt (((1:Nat):Rat)/((1:Nat):Rat)),1)]=_;rw[h2,Rat.mul_one]
theorem zmz (a b:Rat):mkG (rs a++rs b)=rs (a+b):=by
 have h2:∀(T:List (Rat×Nat)) (q:Rat),T.foldl gaG []=[(q,1)]->mkG T=rs q:=λT q h=>by
  unfold mkG keG;rw[h];by_cases hq:q=0
  ·rw[hq,za2];simp[srtS]
  ·rw[zbz hq];simp[hq,srtS,insS]
 by_cases ha:a=0
 ·by_cases hb:b=0
  ·rw[ha,hb,Rat.add_zero,za2];rfl
  ·rw[ha,za2,Rat.zero_add];exact h2 _ b (by rw[zbz hb];rfl)
 ·by_cases hb:b=0
  ·rw[hb,za2,Rat.add_zero,yH];exact h2 _ a (by rw[zbz ha];rfl)
  ·rw[zbz ha,zbz hb];exact h2 _ (a+b) (ztj a b)
theorem zkj (q:Rat):(rs q).length<=1:=by unfold rs;split<;>simp
theorem zlk {q:Rat} (h:sz q 60):∀t∈rs q,sz t.1 60:=λt ht=>by obtain⟨rfl,_⟩:=zd2 ht;exact h
theorem zny (v1 v2:Value) (a b:Rat) (ha:sz a 60) (hb:sz b 60) (hab:sz (a+b) 60) (w:zA) (HW:Hid (∀W,qL w W->Wd W)) (HP:Hid (∀W,qL w W->Pw W)) (h1:SdL v1 (rs a) w) (h2:SdL v2 (rs b) w):
 zC zF 20 #[v1,v2] w λe w'=>∃v,e=.returned (.tuple #[v,.int .i64 0])/\zB w.heap.size w w'/\SdL v (rs (a+b)) w':=by
 have:=z4w v1 v2 (rs a) (rs b) (zc8 ha) (zc8 hb) (by have:=zkj a;have:=zkj b;omega) w HW HP h1 h2;rw[zmz] at this;exact this.mono λe w' h=>h.ok (zlk hab)
theorem zdq {q:Rat} {k:Nat} (h:sz q k):sz (-q) k:=⟨by rw[show(-q).num= -q.num from rfl,Int.natAbs_neg];exact h.1,h.2⟩
theorem zsh (v1 v2:Value) (a b:Rat) (ha:sz a 60) (hb:sz b 60) (hab:sz (a-b) 60) (w:zA) (HW:Hid (∀W,qL w W->Wd W)) (HP:Hid (∀W,qL w W->Pw W)) (h1:SdL v1 (rs a) w) (h2:SdL v2 (rs b) w):
 zC zF 38 #[v1,v2] w λe w'=>∃v,e=.returned (.tuple #[v,.int .i64 0])/\zB w.heap.size w w'/\SdL v (rs (a-b)) w':=by
 have:=z6n v1 v2 (rs a) (rs b) (zc8 ha) (zc8 hb) (by have:=zkj a;have:=zkj b;omega) w HW HP h1 h2;rw[zls b (by decide),zmz,show a+b* -1=a-b by grind] at this;exact this.mono λe w' h=>h.ok (zlk hab)
theorem zd3 (v:Value) (a c:Rat) (ha:sz a 60) (hc:sz c 150) (hac:sz (a*c) 60) (w:zA) (HW:Hid (∀W,qL w W->Wd W)) (HP:Hid (∀W,qL w W->Pw W)) (h:SdL v (rs a) w):
 zC zF 42 #[v,St (numS c)] w λe w'=>∃v',e=.returned (.tuple #[v',.int .i64 0])/\zB w.heap.size w w'/\SdL v' (rs (a*c)) w':=by
 have:=zeu v (rs a) c (zc8 ha) (by have:=zkj a;omega) hc (λt ht=>by obtain⟨rfl,_⟩:=zd2 ht;exact hac.mono (by omega)) w HW HP h;rw[zrm] at this;exact this.mono λe w' h=>h.ok (zlk hac)
theorem zrs (v:Value) (a:Rat) (ha:sz a 60) (w:zA) (HW:Hid (∀W,qL w W->Wd W)) (HP:Hid (∀W,qL w W->Pw W)) (h:SdL v [(a,1)] w):
 zC zF 52 #[v] w λe w'=>∃v',e=.returned (.tuple #[v',.int .i64 0])/\zB w.heap.size w w'/\SdL v' (rs a) w':=by
 by_cases e:a=0
 ·subst e
  rw[za2];exact zjg [(0,1)] (by simp) (λt ht=>by simp at ht;rw[ht]) (λt ht=>by simp at ht;rw[ht];exact zyl.1) v w HW h
 ·have h2:[(a,1)]=rs a++rs 0:=by rw[za2,zbz e];rfl
  rw[h2] at h;have:=z23 (rs a++rs 0) (zz7 (zc8 ha) (zc8 (zqf 60 (by omega))) (by have:=zkj a;have:=zkj 0;omega)) v w HW HP h;rw[zmz,Rat.add_zero] at this;exact this.mono λe w' h=>h.ok (zlk ha)
theorem zkl (p:Option Addr) (cap:Nat) (w:zA):
 qJ 85 #[.slice p 0 cap] w (.tuple #[.int .i64 0,.int .i64 0]):=by
 go_enter Tryz.func85,Tryz.ntmps85;go_wp2_with fail;go_ret2;exact⟨rfl,zM _ _⟩
theorem zff (p:Option Addr) (n cap:Nat) (s e0:Int) (w:zA)
 (K:Hid (qJ 37 #[.slice p n cap] w (.int .i64 0)))
 (S:Hid (∀W:zA,qL w W->qJ 85 #[.slice p n cap] W (.tuple #[.int .i64 s,.int .i64 e0]))):
 qJ 39 #[.slice p n cap] w (.tuple #[.int .i64 s,.int .i64 e0]):=by
 go_enter Tryz.func39,Tryz.ntmps39;go_wp2_with fail;refine K.out.mono ?_;rintro e w1 ⟨rfl,hb1⟩;have B1:=hid hb1;have HS:=hid (S.out w1 hb1);clear hb1 S;go_wp2_with fail;refine HS.out.mono ?_;rintro e w2 ⟨rfl,hb2⟩;have B2:=hid (B1.out.trans (hb2.mono B1.out.size));clear hb2;go_wp2_with fail;go_ret2;exact⟨rfl,B2.out⟩
theorem zpl {Z:Nat->Int} (h:∀k,k<3->0<=Z k) (h2:0<Z 2):sgnP 1 Z=1:=by
 have r:∀k,0<=Z k->zap 1 k (Z k)=1\/zap 1 k (Z k)=0:=λk hk=>by
  unfold zap;split
  ·exact .inl rfl
  ·right;rw[if_neg (by omega)]
 have s2:zap 1 2 (Z 2)=1:=by unfold zap;rw[if_pos h2]
 unfold sgnP;rcases r 0 (h 0 (by omega)) with s0|s0<;>rcases r 1 (h 1 (by omega)) with s1|s1<;>simp[s0,s1,s2]
theorem zpo {Z:Nat->Int} (h:∀k,k<3->Z k<= -1):sgnP 1 Z= -1:=by
 have r:∀k,Z k<= -1->zap 1 k (Z k)= -1\/zap 1 k (Z k)=0:=λk hk=>by
  unfold zap;rw[if_neg (by omega)];split
  ·exact .inl rfl
  ·exact .inr rfl
 have s2:zap 1 2 (Z 2)= -1:=by
  have:=h 2 (by omega);unfold zap;rw[if_neg (by omega),if_pos (by omega)]
 unfold sgnP;rcases r 0 (h 0 (by omega)) with s0|s0<;>rcases r 1 (h 1 (by omega)) with s1|s1<;>simp[s0,s1,s2]
def flq (q:Rat) (k:Nat):Int:=floT q (q.num.natAbs*10^plN k) (q.num.natAbs*q.num.natAbs*1*10^(2*plN k))
theorem zn3 (k:Nat):plN k<=64:=by
 match k with
 |0=>decide
 |1=>decide
 |_+2=>exact zN _
theorem zpp (q:Rat) (h:sz q 60):(0<q->(∀k,k<3->0<=flq q k)/\0<flq q 2)/\(q<0->∀k,k<3->flq q k<= -1):=by
 constructor
 ·intro hq
  have hn:¬q.num<0:=by have:=Rat.num_nonneg.2 (Rat.le_of_lt hq);omega
  have hn0:0<q.num.natAbs:=by
   have:q.num≠0:=λe=>by have:=Rat.num_eq_zero.1 e;grind
   omega
  have e:∀k,flq q k=((q.num.natAbs*10^plN k/q.den:Nat):Int):=λk=>by unfold flq floT;rw[if_neg hn]
  refine⟨λk _=>by rw[e];exact Int.natCast_nonneg _,?_⟩;rw[e];have h1:q.den<=q.num.natAbs*10^plN 2:=by
   have h2:q.den<10^60:=h.2;have h3:(10:Nat)^60<=10^plN 2:=yF (by omega) (by decide);have h4:10^plN 2<=q.num.natAbs*10^plN 2:=Nat.le_mul_of_pos_left _ hn0;omega
  have:=Nat.div_pos h1 q.den_pos;omega
 ·intro hq k _
  have hn:q.num<0:=by
   rcases Int.lt_or_le q.num 0 with h|h
   ·exact h
   ·have:=Rat.num_nonneg.1 h;grind
  have hs:0<q.num.natAbs*10^plN k:=Nat.mul_pos (by omega) (yS (by simp));unfold flq floT;rw[if_pos hn];generalize q.num.natAbs*10^plN k=s at*
  split
  ·rename_i hd
   have:q.den<=s:=Nat.le_of_dvd hs (Nat.dvd_of_mod_eq_zero hd.2);have:=Nat.div_pos this q.den_pos;generalize s/q.den=x at*
   omega
  ·generalize s/q.den=x at*
   omega
theorem zrz (v:Value) (q:Rat) (h:sz q 60) (w:zA) (hw:Wd w) (hp:Spw w) (hv:SdL v (rs q) w):
 qJ 85 #[v] w (.tuple #[.int .i64 (Geo.cmpR q 0),.int .i64 0]):=by
 obtain⟨p,cap,rfl, -,hx⟩:=hv.slice;by_cases h0:q=0
 ·subst h0
  rw[show(rs 0).length=0 by rw[za2];rfl,show Geo.cmpR 0 0=0 by simp[Geo.cmpR]];exact zkl p cap w
 have hl:(rs q).length=1:=by rw[zbz h0];rfl
 rw[hl];have z48:itoa 0=[48]:=zb9;have z49:itoa 1=[49]:=by rw[show(1:Int)=((1:Nat):Int) from rfl,Str.zad,zae (by omega)];rfl
 have hsb:∀k,q.num.natAbs*10^plN k<10^124:=λk=>by
  have h1:=h.1;have h2:(10:Nat)^plN k<=10^64:=yF (by omega) (zn3 k)
  calc q.num.natAbs*10^plN k<10^60*10^plN k:=Nat.mul_lt_mul_of_pos_right h1 (yS (by simp))
   _<=10^60*10^64:=Nat.mul_le_mul_left _ h2
   _=10^124:=by rw[<-Nat.pow_add]
 have hfb:∀k,(flq q k).natAbs<=10^124:=λk=>by
  have hs:=hsb k;have hd:=Nat.div_le_self (q.num.natAbs*10^plN k) q.den;unfold flq floT;generalize q.num.natAbs*10^plN k/q.den=x at*
  split
  ·rw[Int.natAbs_neg,Int.natAbs_natCast]
   split<;>omega
  ·rw[Int.natAbs_natCast]
   omega
 have dz:∀z:Int,z.natAbs<=10^124+2->digs z<=300:=λz hz=>by
  have p1:(10:Nat)^124+2<10^125:=by decide+kernel
  exact zO (zhd (k:=125) (by omega) (by omega)) (by omega)
 have hsq:∀k,q.num.natAbs*10^plN k*(q.num.natAbs*10^plN k)=q.num.natAbs*q.num.natAbs*1*10^(2*plN k):=λk=>by
  rw[Nat.mul_one,Nat.two_mul,Nat.pow_add];ac_rfl
 have hall:=zj5 p cap 1 (by omega) (by omega) (λ_=>numS q) (λ_=>zD 1) (λk _=>flq q k) (λk i=>if i=0 then 0 else flq q k) (hid λk=>rfl)
  (hid λk i hk hi W hW=>by
    have hN:q.num.natAbs*q.num.natAbs*1*10^(2*plN k)<10^248:=by
     rw[<-hsq k];exact zcc (hsb k) (hsb k)
    exact zul q 1 (plN k) (q.num.natAbs*10^plN k) _ (zd0 (by omega) (by omega) h) h0 (by omega) (by have:=zn3 k;omega) rfl (zO (zil (by omega) hN) (by omega)) ⟨Nat.le_of_eq (hsq k),by rw[<-hsq k];exact Nat.mul_lt_mul_of_lt_of_lt (by omega) (by omega)⟩ W hW)
  (hid λk i hk hi W hW=>by
    obtain rfl:i=0:=by omega
    have hf:=hfb k;have:=zva 0 (flq q k) (dz _ (by omega)) (dz _ (by omega)) (dz _ (by omega)) W hW;rw[Int.zero_add] at this;exact this)
  (hid λk j hk hj W hW=>by
    obtain rfl:j=0:=by omega
    have hf:=hfb k;have:=zva (flq q k) 1 (dz _ (by omega)) (dz _ (by omega)) (dz _ (by omega)) W hW;rw[z49] at this;show zC _ _ #[St (itoa (flq q k+0)),_] _ _;rw[Int.add_zero];exact this)
  (hid λk j hk hj W hW=>by
    have hf:=hfb k;have:=zsx (flq q k+(j:Int)) 0 (dz _ (by omega)) (dz _ (by omega)) W;rw[z48] at this;exact this) w (hid hw) (hid hp)
  (hid λi hi=>by
    obtain rfl:i=0:=by omega
    exact hx 0 (q,1) (by rw[zbz h0];rfl))
 have hsg:(sgnP 1 λk=>if(1:Nat)=0 then 0 else flq q k)=Geo.cmpR q 0:=by
  obtain⟨f1,f2⟩:=zpp q h;have:=Geo.zaw q 0;rcases(show q<0\/0<q by grind) with c|c
  ·have e:Geo.cmpR q 0= -1:=by grind
   rw[e];exact zpo λk hk=>f2 c k hk
  ·have e:Geo.cmpR q 0=1:=by grind
   rw[e];exact zpl (λk hk=>(f1 c).1 k hk) (f1 c).2
 rw[hsg] at hall;have he:errP (Geo.cmpR q 0)=0:=by
  have:=Geo.zaw q 0;unfold errP;rw[if_neg (by grind)]
 rw[he] at hall;exact hall
theorem zp6 (v:Value) (q:Rat) (h:sz q 60) (w:zA) (HW:Hid (∀W,qL w W->Wd W)) (HP:Hid (∀W,qL w W->Pw W)) (HS:Hid (∀W,qL w W->Spw W)) (hv:SdL v (rs q) w):
 qJ 39 #[v] w (.tuple #[.int .i64 (Geo.cmpR q 0),.int .i64 0]):=by
 obtain⟨p,cap,e, -⟩:=hv.slice;subst e;exact zff p _ cap _ 0 w (hid (zbh _ (rs q) (zc8 h) w (HW.out w (zM _ _)) (HP.out w (zM _ _)) hv)) (hid λW hW=>zrz _ q h W (HW.out W hW) (HS.out W hW) (hv.below hW))
theorem zjh:z5c ((2:Nat):Rat) ((1:Nat):Rat)=false/\z5c ((1:Nat):Rat) ((2:Nat):Rat)=false:=by
 constructor<;>decide+kernel
def ab2 (a b:Rat):List (Rat×Nat):=[(a,1),(b,2)]
theorem zsj {a b:Rat} (ha:a≠0) (hb:b≠0) (sa:sz a 60) (sb:sz b 60):SdOk (ab2 a b):=by
 refine⟨by simp[ab2],λt ht=>?_,λi t u h1 h2=>?_,λi k t u hik h1 h2=>?_⟩
 ·simp[ab2] at ht
  rcases ht with rfl|rfl
  ·exact⟨ha,sa,zyl.1⟩
  ·exact⟨hb,sb,zyl.2⟩
 ·match i with
  |0=>simp[ab2] at h1 h2;subst h1;subst h2;show 1<2;omega
  |i+1=>simp[ab2] at h2
 ·match i,k with
  |0,0=>exact absurd rfl hik
  |0,1=>simp[ab2] at h1 h2;subst h1;subst h2;exact zjh.1
  |1,0=>simp[ab2] at h1 h2;subst h1;subst h2;exact zjh.2
  |1,1=>exact absurd rfl hik
  |i+2,_=>simp[ab2] at h1
  |_,k+2=>simp[ab2] at h2
def b2 (b:Rat):List (Rat×Nat):=[(b,2)]
theorem zs7 {b:Rat} (hb:b≠0) (sb:sz b 60):SdOk (b2 b):=SdOk.one ⟨hb,sb,zyl.2⟩
theorem zp8 (v:Value) (w:zA) (hw:Wd w) (hp:Spw w) (hv:SdL v (ab2 (-1) 1) w):
 qJ 85 #[v] w (.tuple #[.int .i64 1,.int .i64 0]):=by
 obtain⟨p,cap,rfl, -,hx⟩:=hv.slice;have z48:itoa 0=[48]:=zb9;have dz:∀z:Int, -1000000<z->z<1000000->digs z<=300:=λz h1 h2=>zO (zhd (k:=6) (by omega) (by show z.natAbs<1000000;omega)) (by omega)
 refine z3w p cap 2 (by omega) (by omega) (λi=>if i=0 then numS (-1) else numS 1) (λi=>if i=0 then zD 1 else zD 2) (λi=>if i=0 then itoa (-10000) else itoa 14142) (λi=>itoa (if i=0 then 0 else if i=1 then-10000 else 4142)) (λ_=>[]) 1 0 1 z48
  (hid λi hi W hW=>?_) (hid λi hi W hW=>?_) (hid λW hW=>?_) (hid (.inl ⟨by decide,rfl⟩)) w (hid hw) (hid hp) (hid λi hi=>?_)
 ·match i,hi with
  |0,_=>
   have:=zul (-1) 1 4 10000 100000000 (zm5 zb7.2.2.2.2.1) (by decide) (by omega) (by omega) (by decide+kernel) (zO (zil (k:=10) (by omega) (by omega)) (by omega)) ⟨by omega,by omega⟩ W hW;unfold floT at this;rw[if_pos (by decide),if_pos ⟨by omega,by decide+kernel⟩,show((10000/(-1:Rat).den+0:Nat):Int)=10000 by decide+kernel] at this;exact this
  |1,_=>
   have:=zul 1 2 4 14142 200000000 (zm5 zb7.2.1) (by decide) (by omega) (by omega) (by decide+kernel) (zO (zil (k:=10) (by omega) (by omega)) (by omega)) ⟨by omega,by omega⟩ W hW;unfold floT at this;rw[if_neg (by decide),show((14142/(1:Rat).den:Nat):Int)=14142 by decide+kernel] at this;exact this
 ·match i,hi with
  |0,_=>
   have:=zva 0 (-10000) (dz _ (by omega) (by omega)) (dz _ (by omega) (by omega)) (dz _ (by omega) (by omega)) W hW;exact this
  |1,_=>
   have:=zva (-10000) 14142 (dz _ (by omega) (by omega)) (dz _ (by omega) (by omega)) (dz _ (by omega) (by omega)) W hW;exact this
 ·have:=zsx 4142 0 (dz _ (by omega) (by omega)) (dz _ (by omega) (by omega)) W
  rw[z48] at this;exact this
 ·match i,hi with
  |0,_=>exact hx 0 (-1,1) rfl
  |1,_=>exact hx 1 (1,2) rfl
theorem zml (p:Option Addr) (cap n:Nat) (q:Nat->Rat) (hn:n<=5000)
 (C:Hid (∀k,k<n->qK 77 #[St (numS (q k))] (.int .i64 0)))
 (w:zA) (HW:Hid (Wd w)) (HP:Hid (RowNums p n q w)):
 qJ 63 #[.slice p n cap] w (.int .i64 0):=by
 have D0:=hid (zM w.heap.size w);go_enter Tryz.func63,Tryz.ntmps63;go_wp2_with fail;go_loopw [8] (λi wr=>∃(k:Nat),k<=n/\i=.int .i64 (k:Int)/\Hid (qL w wr))
  (λi _=>n-(RowKit.intOf i).toNat)
 case atStart=>exact⟨0,Nat.zero_le _,rfl,D0⟩
 case round=>
  clear D0;obtain⟨k,hk,rfl,hB⟩:=hrel;by_cases hlt:k<n
  ·obtain⟨b,off,rfl,c0⟩:=(HP.out.keep (zac hB.out)) k hlt
   have HC:=hid (C.out k hlt);generalize numS (q k)=x at*
   go_wp2_with fail;refine(HC.out wr (HW.out.below hB.out)).mono ?_;rintro e w2 ⟨rfl,hb2⟩;have hB2:=hid (hB.out.trans (hb2.mono hB.out.size));clear hb2 HC;go_wp2_with fail;go_roundw
   case rel=>exact⟨k+1,by omega,by go_num,hB2⟩
   case measure=>simp[RowKit.intOf];omega
  ·go_wp2_with fail
   go_ret;exact⟨rfl,hB.out⟩
theorem zea (a:Rat) (k:Nat) (h0:0<k) (hk:k<=290) (h:sz a k) (w:zA) (hw:Wd w):
 qJ 65 #[St (numS a)] w (St (numS (-a))):=by
 have hc:=ztz 0 a 1 k (by omega) h0 (by omega) zb7.1 h w hw;rw[show(0:Rat)-a= -a by grind,show St (numS 0)=.string ⟨#[48]⟩ by rw[nm0]] at hc;generalize numS a=x at*
 generalize numS (-a)=y at*
 have HC:=hid hc;clear hc;go_enter Tryz.func65,Tryz.ntmps65;go_wp2_with fail;refine HC.out.mono ?_;rintro e w1 ⟨rfl,hb⟩;have HB:=hid hb;clear hb;go_wp2_with fail;go_ret;exact⟨rfl,HB.out⟩
theorem z5u (x:List UInt8) (R:Value->zA->Prop) (hR:Hid (∀v W,R v W->∃q n c,v=.slice q n c)) (w:zA)
 (M:Hid (∀W:zA,qL w W->W.heap[w.heap.size]? =some (.cells #[St x,.string ⟨#[49]⟩] 66 (0,0))->zC zF 52 #[.slice (some ⟨w.heap.size,0,none⟩) 1 1] W λe w'=>∃v,e=.returned (.tuple #[v,.int .i64 0])/\zB W.heap.size W w'/\R v w')):
 zC zF 48 #[St x] w λe w'=>∃v,e=.returned (.tuple #[v,.int .i64 0])/\zB w.heap.size w w'/\R v w':=by
 obtain⟨v1,hv⟩:∃v1,v1=w.alloc (.cells #[St x,.string ⟨#[49]⟩] 66):=⟨_,rfl⟩;have a1:qL w v1:=by rw[hv];exact(zM _ w).alloc (zN _) _
 have A1:v1.heap[w.heap.size]? =some (.cells #[St x,.string ⟨#[49]⟩] 66 (0,0)):=by rw[hv];exact zG w _
 have HM:=hid (M.out v1 a1 A1);have HV1:=hid hv.symm;have E1:=hid a1;clear hv a1 A1 M;go_enter Tryz.func48,Tryz.ntmps48;go_wp2_with fail;rw[HV1.out];clear HV1;refine HM.out.mono ?_;rintro e w1 ⟨v,rfl,hb1,hr⟩;obtain⟨q,n,c,rfl⟩:=hR.out v w1 hr;have FE:=hid (⟨E1.out.trans (hb1.mono E1.out.size),hr⟩:qL w w1/\R (.slice q n c) w1);clear hb1 hr HM;go_wp2_with fail;go_ret2;exact⟨_,rfl,FE.out.1,FE.out.2⟩
theorem z7c (a:Rat) (h:sz a 60) (w:zA) (HW:Hid (∀W,qL w W->Wd W)) (HP:Hid (∀W,qL w W->Pw W)):
 zC zF 48 #[St (numS a)] w λe w'=>∃v,e=.returned (.tuple #[v,.int .i64 0])/\zB w.heap.size w w'/\SdL v (rs a) w':=by
 refine z5u (numS a) (λv W=>SdL v (rs a) W) (hid λv W h=>h.any) w (hid λW hW hx=>?_);have hl:=(Array.getElem?_eq_some_iff.1 hx).1;refine zrs _ a h W (hid λV hV=>HW.out V (hW.trans (hV.mono hW.size))) (hid λV hV=>HP.out V (hW.trans (hV.mono hW.size))) (.inr ⟨w.heap.size,0,1,rfl,zN _,hl,λi t ht=>?_⟩);obtain rfl:i=0:=by have:=(List.getElem?_eq_some_iff.1 ht).1;simpa using this
 obtain rfl:t=(a,1):=by simpa using ht.symm
 exact⟨by rw[zJ hx];rfl,by rw[zJ hx];show _=some (St (zD 1));rw[show zD 1=[49] by rw[zae (by omega)];rfl];rfl⟩
theorem zcl (a b c:List UInt8) (p:Option Addr) (n k:Nat) (w:zA):
 qJ 30 #[.agg #[St a,St b,St c,.slice p n k]] w (.agg #[St a,St b,St c]):=by
 go_enter Tryz.func30,Tryz.ntmps30;go_wp2_with fail;exact bodyPost_ret (v:=.agg #[St a,St b,St c]) (by simp[results,Tryz.results30,go_sem]) rfl ⟨rfl,((zM _ w).alloc (zN _) _).alloc (by simp) _⟩
theorem zr2 (q:Rat):numS q≠[]:=by
 intro h;have h1:(itoa q.num).length<=(numS q).length:=by unfold numS;simp
 have h2:itoa q.num≠[]:=by
  rcases zbg q.num with⟨_,e⟩|⟨_,e⟩
  ·rw[e];exact zci _
  ·rw[e];simp
 rw[h] at h1;exact h2 (List.length_eq_zero_iff.1 (by simpa using h1))
theorem SdL.other {v:Value} {l:List (Rat×Nat)} {W W':zA} {k:Nat} (h:SdL v l W) (hk:∀b,b≠k->W'.heap[b]? =W.heap[b]?) (hs:W.heap.size<=W'.heap.size) (hz:∀i q,W.cell? ⟨k,i,none⟩≠some (St (numS q))):SdL v l W':=by
 rcases h with h|⟨b,off,cap,e,hc,hl,hx⟩
 ·exact .inl h
 ·refine .inr ⟨b,off,cap,e,hc,by omega,λi t ht=>?_⟩
  obtain⟨c0,c1⟩:=hx i t ht;have hb:b≠k:=λe=>by subst e;exact hz _ _ c0
  have hh:∀o,W'.cell? ⟨b,o,none⟩=W.cell? ⟨b,o,none⟩:=λo=>by unfold World.cell?;rw[show((⟨b,o,none⟩:Addr).block)=b from rfl,hk b hb]
  exact⟨by rw[hh];exact c0,by rw[hh];exact c1⟩
def zc1:Array Value:= #[St [],St [],St [],.slice none 0 0]
theorem zk8 {W:zA} {k:Nat} (h:W.heap[k]? =some (.cells zc1 26 (0,0))):∀i q,W.cell? ⟨k,i,none⟩≠some (St (numS q)):=λi q e=>by
 rw[zJ h] at e;have hne:=zr2 q;have bad:∀x:List UInt8,St []=St x->x=[]:=λx hx=>by
  have:=congrArg (λv=>match v with| .string s=>s.data.toList|_=>[]) hx;simpa using this.symm
 match i,e with
 |0,e=>exact hne (bad _ (Option.some.inj e))
 |1,e=>exact hne (bad _ (Option.some.inj e))
 |2,e=>exact hne (bad _ (Option.some.inj e))
 |3,e=>cases Option.some.inj e
 |i+4,e=>simp[zc1] at e
structure TrnS (w:zA) (o:Nat) (a b c:List UInt8) (d:Value) (a' b' c':List UInt8) (d':Value) (l:List (Rat×Nat)) (f:Nat->Bool) (W:zA):Prop where
 bel:qL w W
 h0:W.heap[w.heap.size]? =some (.cells #[St a,St b,St c,d] 26 (0,0))
 h2:f o=false->W.heap[w.heap.size+1]? =some (.cells zc1 26 (0,0))
 h3:f o=true->W.heap[w.heap.size+1]? =some (.cells #[St a',St b',St c',d'] 26 (0,0))
 sd:SdL d' l W
section
variable {w W W':zA} {o:Nat} {a b c a' b' c':List UInt8} {d d':Value} {l:List (Rat×Nat)} {f g:Nat->Bool}
theorem TrnS.congr (h:TrnS w o a b c d a' b' c' d' l f W) (e:g o=f o):TrnS w o a b c d a' b' c' d' l g W:=⟨h.bel,h.h0,by rw[e];exact h.h2,by rw[e];exact h.h3,h.sd⟩
theorem TrnS.next (h:TrnS w o a b c d a' b' c' d' l f W) (hb:qL W W'):TrnS w o a b c d a' b' c' d' l f W':=
 have hc:=zac hb
 ⟨h.bel.trans (hb.mono h.bel.size),hc _ _ _ _ h.h0,λe=>hc _ _ _ _ (h.h2 e),λe=>hc _ _ _ _ (h.h3 e),h.sd.below hb⟩
theorem TrnS.cells (h:TrnS w o a b c d a' b' c' d' l f W):W.cell? ⟨w.heap.size,0,none⟩=some (St a)/\W.cell? ⟨w.heap.size,1,none⟩=some (St b)/\W.cell? ⟨w.heap.size,2,none⟩=some (St c)/\W.cell? ⟨w.heap.size,3,none⟩=some d:=
 ⟨by rw[zJ h.h0];rfl,by rw[zJ h.h0];rfl,by rw[zJ h.h0];rfl,by rw[zJ h.h0];rfl⟩
theorem TrnS.soft (h:TrnS w o a b c d a' b' c' d' l f W) (e:f o=false):W.frozen? ⟨w.heap.size+1,0,none⟩=false/\W.frozen? ⟨w.heap.size+1,1,none⟩=false/\W.frozen? ⟨w.heap.size+1,2,none⟩=false/\W.frozen? ⟨w.heap.size+1,3,none⟩=false:=
 ⟨Go.Joins.unfrozen_of_block (h.h2 e) 0,Go.Joins.unfrozen_of_block (h.h2 e) 1,Go.Joins.unfrozen_of_block (h.h2 e) 2,Go.Joins.unfrozen_of_block (h.h2 e) 3⟩
theorem TrnS.old (h:TrnS w o a b c d a' b' c' d' l f W) (e:f o=false):W.cell? ⟨w.heap.size+1,0,none⟩=some (St [])/\W.cell? ⟨w.heap.size+1,1,none⟩=some (St [])/\W.cell? ⟨w.heap.size+1,2,none⟩=some (St [])/\W.cell? ⟨w.heap.size+1,3,none⟩=some (.slice none 0 0):=
 ⟨by rw[zJ (h.h2 e)];rfl,by rw[zJ (h.h2 e)];rfl,by rw[zJ (h.h2 e)];rfl,by rw[zJ (h.h2 e)];rfl⟩
theorem TrnS.new (h:TrnS w o a b c d a' b' c' d' l f W) (e:f o=true):W.cell? ⟨w.heap.size+1,0,none⟩=some (St a')/\W.cell? ⟨w.heap.size+1,1,none⟩=some (St b')/\W.cell? ⟨w.heap.size+1,2,none⟩=some (St c')/\W.cell? ⟨w.heap.size+1,3,none⟩=some d':=
 ⟨by rw[zJ (h.h3 e)];rfl,by rw[zJ (h.h3 e)];rfl,by rw[zJ (h.h3 e)];rfl,by rw[zJ (h.h3 e)];rfl⟩
theorem TrnS.put (h:TrnS w o a b c d a' b' c' d' l f W) (e:f o=false):TrnS w o a b c d a' b' c' d' l (λj=>if o=j then true else f j) ((((W.setCell ⟨w.heap.size+1,0,none⟩ (St a')).setCell ⟨w.heap.size+1,1,none⟩ (St b')).setCell ⟨w.heap.size+1,2,none⟩ (St c')).setCell ⟨w.heap.size+1,3,none⟩ d'):=by
 have ne:∀{k:Nat},k≠w.heap.size+1->((((W.setCell ⟨w.heap.size+1,0,none⟩ (St a')).setCell ⟨w.heap.size+1,1,none⟩ (St b')).setCell ⟨w.heap.size+1,2,none⟩ (St c')).setCell ⟨w.heap.size+1,3,none⟩ d').heap[k]? =W.heap[k]? :=λ{k} hk=>by
  rw[yE _ _ _ _ (by exact hk),yE _ _ _ _ (by exact hk),yE _ _ _ _ (by exact hk),yE _ _ _ _ (by exact hk)]
 have hz:=zk8 (h.h2 e);refine⟨(((h.bel.setCell (p:=⟨w.heap.size+1,0,none⟩) (by show _<=w.heap.size+1;omega) _).setCell (p:=⟨w.heap.size+1,1,none⟩) (by show _<=w.heap.size+1;omega) _).setCell (p:=⟨w.heap.size+1,2,none⟩) (by show _<=w.heap.size+1;omega) _).setCell (p:=⟨w.heap.size+1,3,none⟩) (by show _<=w.heap.size+1;omega) _,?_,λk=>(by simp at k),λ_=>?_,h.sd.other (λb hb=>ne hb) (by simp[World.setCell]) hz⟩
 ·rw[ne (by omega)];exact h.h0
 ·exact zK (i:=3) (zK (i:=2) (zK (i:=1) (zK (i:=0) (h.h2 e) (St a')) (St b')) (St c')) d'
end
theorem TrnS.start (w:zA) (o:Nat) (a b c:List UInt8) (d:Value) (a' b' c':List UInt8) (d':Value) (l:List (Rat×Nat)) (W:zA) (hW:zB ((w.alloc (.cells #[St a,St b,St c,d] 26)).alloc (.cells zc1 26)).heap.size ((w.alloc (.cells #[St a,St b,St c,d] 26)).alloc (.cells zc1 26)) W) (hs:SdL d' l W):TrnS w o a b c d a' b' c' d' l (λ_=>false) W:=by
 have hb:qL w ((w.alloc (.cells #[St a,St b,St c,d] 26)).alloc (.cells zc1 26)):=((zM _ w).alloc (zN _) _).alloc (by simp) _;have hc:=zac hW;refine⟨hb.trans (hW.mono hb.size),hc _ _ _ _ ?_,λ_=>hc _ _ _ _ ?_,λk=>(by cases k),hs⟩
 ·exact(Below.heap_alloc _ _ _ (by simp)).trans (zG w _)
 ·have:=zG (w.alloc (.cells #[St a,St b,St c,d] 26)) (.cells zc1 26)
  rw[World.size_alloc] at this;exact this
theorem zn4 (a b c:List UInt8) (p:Option Addr) (n k:Nat) (l:List (Rat×Nat)) (w:zA) (hs:SdL (.slice p n k) l w):
 zC zF 108 #[.agg #[St a,St b,St c,.slice p n k]] w λe w'=>e=.returned (.tuple #[.agg #[St a,St b,St c,.slice p n k],.int .i64 0])/\zB w.heap.size w w'/\SdL (.slice p n k) l w':=by
 go_enter Tryz.func108,Tryz.ntmps108;go_wp2_with fail;have hB:∀cs:Array Value,qL w ((w.alloc (.cells #[St a,St b,St c,.slice p n k] 26)).alloc (.cells cs 26)):=λcs=>((zM _ w).alloc (zN _) _).alloc (by simp) _;exact bodyPost_ret (v:=.tuple #[.agg #[St a,St b,St c,.slice p n k],.int .i64 0]) (by simp[results,Tryz.results108,go_sem]) rfl ⟨rfl,hB _,hs.below (hB _)⟩
theorem zn5 (a b c a' b' c':List UInt8) (p:Option Addr) (n k:Nat) (l:List (Rat×Nat)) (w:zA) (HW:Hid (∀W,qL w W->Wd W))
 (SC:Hid (∀W:zA,qL w W->zC zF 42 #[.slice p n k,.string ⟨#[45,49]⟩] W λe w'=>∃v,e=.returned (.tuple #[v,.int .i64 0])/\zB W.heap.size W w'/\SdL v l w'))
 (O1:Hid (qK 65 #[St a] (St a')))
 (O2:Hid (qK 65 #[St b] (St b')))
 (O3:Hid (qK 65 #[St c] (St c'))):
 zC zF 40 #[.agg #[St a,St b,St c,.slice p n k]] w λe w'=>∃v,e=.returned (.tuple #[.agg #[St a',St b',St c',v],.int .i64 0])/\zB w.heap.size w w'/\SdL v l w':=by
 obtain⟨v1,hv⟩:∃v1,v1=(w.alloc (.cells #[St a,St b,St c,.slice p n k] 26)).alloc (.cells zc1 26):=⟨_,rfl⟩;have hb:qL w v1:=by rw[hv];exact((zM _ w).alloc (zN _) _).alloc (by simp) _
 have A1:v1.heap[w.heap.size]? =some (.cells #[St a,St b,St c,.slice p n k] 26 (0,0)):=by rw[hv];exact(Below.heap_alloc _ _ _ (by simp)).trans (zG w _)
 have q3:v1.cell? ⟨w.heap.size,3,none⟩=some (.slice p n k):=by rw[zJ A1];rfl
 have HST:=hid (λ(d':Value) (W:zA) (hW:qL v1 W) (hs:SdL d' l W)=>TrnS.start w 11 a b c (.slice p n k) a' b' c' d' l W (by rw[<-hv];exact hW) hs);have HS:=hid (SC.out v1 hb);have HV:=hid hv.symm;clear hv hb A1 SC;go_enter Tryz.func40,Tryz.ntmps40;go_wp2_with fail;have h9:=HV.out;rw[show(w.alloc (.cells #[.string ⟨a.toArray⟩,.string ⟨b.toArray⟩,.string ⟨c.toArray⟩,.slice p n k] 26)).alloc (.cells #[.string ⟨#[]⟩,.string ⟨#[]⟩,.string ⟨#[]⟩,.slice none 0 0] 26)=v1 from h9];clear h9 HV;go_wp2_with fail;refine HS.out.mono ?_;rintro e w2 ⟨d',rfl,hb2,hs2⟩;obtain⟨q',n',c2,rfl⟩:=hs2.any;have HT:=hid (HST.out _ w2 hb2 hs2);clear hb2 hs2 HS HST q3;go_wp2_with fail;refine zbl (TrnS w 11 a b c (.slice p n k) a' b' c' (.slice q' n' c2) l) (by kernel_rfl) (by kernel_rfl) (HT.out.next (zM _ _).drew) ?_;refine zab (v:=.pointer (some ⟨w.heap.size,0,none⟩)) (by rfl) (λf W' h=>h.congr rfl) (λf W' hf h=>by go_simp) ?_
 try simp only[zzQ]
 refine zab (v:=St a) (by rfl) (λf W' h=>h.congr rfl) (λf W' hf h=>by obtain⟨q0,q1,q2,q3⟩:=h.cells;go_simp) ?_
 try simp only[zzQ]
 refine zar (St a') (by rfl) (λf W' hf h C' hC'=>by
  go_simp;refine(O1.out _ (HW.out _ h.bel)).mono ?_;rintro e w' ⟨rfl,hb⟩;exact⟨rfl,hC' _ ((h.next hb).congr rfl)⟩) ?_
 try simp only[zzQ]
 refine zab (v:=.pointer (some ⟨w.heap.size,1,none⟩)) (by rfl) (λf W' h=>h.congr rfl) (λf W' hf h=>by go_simp) ?_
 try simp only[zzQ]
 refine zab (v:=St b) (by rfl) (λf W' h=>h.congr rfl) (λf W' hf h=>by obtain⟨q0,q1,q2,q3⟩:=h.cells;go_simp) ?_
 try simp only[zzQ]
 refine zar (St b') (by rfl) (λf W' hf h C' hC'=>by
  go_simp;refine(O2.out _ (HW.out _ h.bel)).mono ?_;rintro e w' ⟨rfl,hb⟩;exact⟨rfl,hC' _ ((h.next hb).congr rfl)⟩) ?_
 try simp only[zzQ]
 refine zab (v:=.pointer (some ⟨w.heap.size,2,none⟩)) (by rfl) (λf W' h=>h.congr rfl) (λf W' hf h=>by go_simp) ?_
 try simp only[zzQ]
 refine zab (v:=St c) (by rfl) (λf W' h=>h.congr rfl) (λf W' hf h=>by obtain⟨q0,q1,q2,q3⟩:=h.cells;go_simp) ?_
 try simp only[zzQ]
 refine zar (St c') (by rfl) (λf W' hf h C' hC'=>by
  go_simp;refine(O3.out _ (HW.out _ h.bel)).mono ?_;rintro e w' ⟨rfl,hb⟩;exact⟨rfl,hC' _ ((h.next hb).congr rfl)⟩) ?_
 try simp only[zzQ]
 refine zab (v:=.slice q' n' c2) (by rfl) (λf W' h=>h.congr rfl) (λf W' hf h=>by go_simp) ?_
 try simp only[zzQ]
 refine zab (v:=.agg #[St a',St b',St c',.slice q' n' c2]) (by rfl) (λf W' h=>h.congr rfl) (λf W' hf h=>by go_simp) ?_
 try simp only[zzQ]
 refine zar undef (by rfl) (λf W' hf h C' hC'=>by
  have h11:=hf.self;obtain⟨d0,d1,d2,d3⟩:=h.old h11;obtain⟨f0,f1,f2,f3⟩:=h.soft h11;go_simp;exact⟨rfl,hC' _ (h.put h11)⟩) ?_
 try simp only[Act.put]
 refine zab (v:=.int .i64 0) (by rfl) (λf W' h=>h.congr rfl) (λf W' hf h=>by go_simp) ?_
 try simp only[zzQ]
 refine zck λf X hf h=>?_;obtain⟨c0,c1,c2',c3⟩:=h.new (hf 11 (by decide));have hF:=hid (⟨h.bel,h.sd⟩:_/\_);clear h hf HT;go_wp2_with fail;exact bodyPost_ret (v:=.tuple #[.agg #[St a',St b',St c',.slice q' n' c2],.int .i64 0]) (by simp[results,Tryz.results40,go_sem,c0,c1,c2',c3]) rfl ⟨_,rfl,hF.out.1,hF.out.2⟩
theorem zgj (b:Bool) (w:zA):zC zF 64 #[.bool b] w λe w'=>e=.returned (.func (.func (if b=true then 108 else 40)) #[] #[])/\w'=w:=by
 cases b
 ·go_enter Tryz.func64,Tryz.ntmps64
  go_wp2_with fail;go_ret;exact⟨rfl,rfl⟩
 ·go_enter Tryz.func64,Tryz.ntmps64
  go_wp2_with fail;go_ret;exact⟨rfl,rfl⟩
structure OfS (w:zA) (a b c:List UInt8) (v:Value) (l:List (Rat×Nat)) (a2 b2 c2:List UInt8) (l2:List (Rat×Nat)) (d:Value) (f:Nat->Bool) (W:zA):Prop where
 bel:qL w W
 h0:W.heap[w.heap.size]? =some (.cells #[St a,St b,St c] 64 (0,0))
 h2:f 14=false->W.heap[w.heap.size+1]? =some (.cells zc1 26 (0,0))
 h3:f 14=true->W.heap[w.heap.size+1]? =some (.cells #[St a2,St b2,St c2,d] 26 (0,0))
 sv:SdL v l W
 sd:f 11=true->SdL d l2 W
section
variable {w W W':zA} {a b c a2 b2 c2:List UInt8} {v d:Value} {l l2:List (Rat×Nat)} {f g:Nat->Bool}
theorem OfS.congr (h:OfS w a b c v l a2 b2 c2 l2 d f W) (e1:g 11=f 11) (e:g 14=f 14):OfS w a b c v l a2 b2 c2 l2 d g W:=⟨h.bel,h.h0,by rw[e];exact h.h2,by rw[e];exact h.h3,h.sv,by rw[e1];exact h.sd⟩
theorem OfS.next (h:OfS w a b c v l a2 b2 c2 l2 d f W) (hb:qL W W'):OfS w a b c v l a2 b2 c2 l2 d f W':=
 have hc:=zac hb
 ⟨h.bel.trans (hb.mono h.bel.size),hc _ _ _ _ h.h0,λe=>hc _ _ _ _ (h.h2 e),λe=>hc _ _ _ _ (h.h3 e),h.sv.below hb,λe=>(h.sd e).below hb⟩
theorem OfS.cells (h:OfS w a b c v l a2 b2 c2 l2 d f W):W.cell? ⟨w.heap.size,0,none⟩=some (St a)/\W.cell? ⟨w.heap.size,1,none⟩=some (St b)/\W.cell? ⟨w.heap.size,2,none⟩=some (St c):=
 ⟨by rw[zJ h.h0];rfl,by rw[zJ h.h0];rfl,by rw[zJ h.h0];rfl⟩
theorem OfS.soft (h:OfS w a b c v l a2 b2 c2 l2 d f W) (e:f 14=false):W.frozen? ⟨w.heap.size+1,0,none⟩=false/\W.frozen? ⟨w.heap.size+1,1,none⟩=false/\W.frozen? ⟨w.heap.size+1,2,none⟩=false/\W.frozen? ⟨w.heap.size+1,3,none⟩=false:=
 ⟨Go.Joins.unfrozen_of_block (h.h2 e) 0,Go.Joins.unfrozen_of_block (h.h2 e) 1,Go.Joins.unfrozen_of_block (h.h2 e) 2,Go.Joins.unfrozen_of_block (h.h2 e) 3⟩
theorem OfS.old (h:OfS w a b c v l a2 b2 c2 l2 d f W) (e:f 14=false):W.cell? ⟨w.heap.size+1,0,none⟩=some (St [])/\W.cell? ⟨w.heap.size+1,1,none⟩=some (St [])/\W.cell? ⟨w.heap.size+1,2,none⟩=some (St [])/\W.cell? ⟨w.heap.size+1,3,none⟩=some (.slice none 0 0):=
 ⟨by rw[zJ (h.h2 e)];rfl,by rw[zJ (h.h2 e)];rfl,by rw[zJ (h.h2 e)];rfl,by rw[zJ (h.h2 e)];rfl⟩
theorem OfS.new (h:OfS w a b c v l a2 b2 c2 l2 d f W) (e:f 14=true):W.cell? ⟨w.heap.size+1,0,none⟩=some (St a2)/\W.cell? ⟨w.heap.size+1,1,none⟩=some (St b2)/\W.cell? ⟨w.heap.size+1,2,none⟩=some (St c2)/\W.cell? ⟨w.heap.size+1,3,none⟩=some d:=
 ⟨by rw[zJ (h.h3 e)];rfl,by rw[zJ (h.h3 e)];rfl,by rw[zJ (h.h3 e)];rfl,by rw[zJ (h.h3 e)];rfl⟩
theorem OfS.res (h:OfS w a b c v l a2 b2 c2 l2 d f W) (hb:qL W W') {u:Value} (hu:SdL u l2 W') (e14:f 14=false) (g14:g 14=f 14):OfS w a b c v l a2 b2 c2 l2 u g W':=
 have hn:=h.next hb
 ⟨hn.bel,hn.h0,by rw[g14];exact hn.h2,λk=>(by rw[g14,e14] at k;cases k),hn.sv,λ_=>hu⟩
theorem OfS.put (h:OfS w a b c v l a2 b2 c2 l2 d f W) (e:f 14=false):OfS w a b c v l a2 b2 c2 l2 d (λj=>if 14=j then true else f j) ((((W.setCell ⟨w.heap.size+1,0,none⟩ (St a2)).setCell ⟨w.heap.size+1,1,none⟩ (St b2)).setCell ⟨w.heap.size+1,2,none⟩ (St c2)).setCell ⟨w.heap.size+1,3,none⟩ d):=by
 have ne:∀{k:Nat},k≠w.heap.size+1->((((W.setCell ⟨w.heap.size+1,0,none⟩ (St a2)).setCell ⟨w.heap.size+1,1,none⟩ (St b2)).setCell ⟨w.heap.size+1,2,none⟩ (St c2)).setCell ⟨w.heap.size+1,3,none⟩ d).heap[k]? =W.heap[k]? :=λ{k} hk=>by
  rw[yE _ _ _ _ (by exact hk),yE _ _ _ _ (by exact hk),yE _ _ _ _ (by exact hk),yE _ _ _ _ (by exact hk)]
 have hz:=zk8 (h.h2 e);refine⟨(((h.bel.setCell (p:=⟨w.heap.size+1,0,none⟩) (by show _<=w.heap.size+1;omega) _).setCell (p:=⟨w.heap.size+1,1,none⟩) (by show _<=w.heap.size+1;omega) _).setCell (p:=⟨w.heap.size+1,2,none⟩) (by show _<=w.heap.size+1;omega) _).setCell (p:=⟨w.heap.size+1,3,none⟩) (by show _<=w.heap.size+1;omega) _,?_,λk=>(by simp at k),λ_=>?_,h.sv.other (λb hb=>ne hb) (by simp[World.setCell]) hz,λk=>(h.sd (by simpa using k)).other (λb hb=>ne hb) (by simp[World.setCell]) hz⟩
 ·rw[ne (by omega)];exact h.h0
 ·exact zK (i:=3) (zK (i:=2) (zK (i:=1) (zK (i:=0) (h.h2 e) (St a2)) (St b2)) (St c2)) d
end
theorem zlt (a b c a1 b1 a2 b2 c2:List UInt8) (ab:Bool) (g:FuncId) (l l2:List (Rat×Nat)) (w:zA) (HW:Hid (∀W,qL w W->Wd W))
 (FI:Hid (∀W:zA,qL w W->∀A,W.heap[A]? =some (.cells #[St a,St b,St c] 22 (0,0))->qJ 63 #[.slice (some ⟨A,0,none⟩) 3 3] W (.int .i64 0)))
 (NU:Hid (∀W:zA,qL w W->zC zF 48 #[St c] W λe w'=>∃v,e=.returned (.tuple #[v,.int .i64 0])/\zB W.heap.size W w'/\SdL v l w'))
 (CH:Hid (∀W:zA,zC zF 64 #[.bool (!ab)] W λe w'=>e=.returned (.func (.func g) #[] #[])/\w'=W))
 (O1:Hid (qK 65 #[St a] (St a1)))
 (O2:Hid (qK 65 #[St b] (St b1)))
 (GO:Hid (∀(W:zA) (p:Option Addr) (n k:Nat),qL w W->SdL (.slice p n k) l W->zC zF g #[.agg #[St a1,St b1,.string ⟨#[49]⟩,.slice p n k]] W λe w'=>∃v,e=.returned (.tuple #[.agg #[St a2,St b2,St c2,v],.int .i64 0])/\zB W.heap.size W w'/\SdL v l2 w')) (eg:∀args w,(callFunc g args).run zF w=.ok (.enter g args) w):
 zC zF 25 #[.agg #[St a,St b,St c],.bool ab] w λe w'=>∃v,e=.returned (.tuple #[.agg #[St a2,St b2,St c2,v],.int .i64 0])/\zB w.heap.size w w'/\SdL v l2 w':=by
 obtain⟨v1,hv⟩:∃v1,v1=(w.alloc (.cells #[St a,St b,St c] 64)).alloc (.cells zc1 26):=⟨_,rfl⟩;have b1':qL w v1:=by rw[hv];exact((zM _ w).alloc (zN _) _).alloc (by simp) _
 have A1:v1.heap[w.heap.size]? =some (.cells #[St a,St b,St c] 64 (0,0)):=by rw[hv];exact(Below.heap_alloc _ _ _ (by simp)).trans (zG w _)
 have A2:v1.heap[w.heap.size+1]? =some (.cells zc1 26 (0,0)):=by
  rw[hv];have:=zG (w.alloc (.cells #[St a,St b,St c] 64)) (.cells zc1 26);rw[World.size_alloc] at this;exact this
 have q0:v1.cell? ⟨w.heap.size,0,none⟩=some (St a):=by rw[zJ A1];rfl
 have q1:v1.cell? ⟨w.heap.size,1,none⟩=some (St b):=by rw[zJ A1];rfl
 have q2:v1.cell? ⟨w.heap.size,2,none⟩=some (St c):=by rw[zJ A1];rfl
 obtain⟨v2,hv2⟩:∃v2,v2=v1.alloc (.cells #[St a,St b,St c] 22):=⟨_,rfl⟩;have b2':qL v1 v2:=by rw[hv2];exact(zM _ v1).alloc (zN _) _
 have A3:v2.heap[v1.heap.size]? =some (.cells #[St a,St b,St c] 22 (0,0)):=by rw[hv2];exact zG v1 _
 have hb:=b1'.trans (b2'.mono b1'.size);have hsz:v1.heap.size=w.heap.size+1+1:=by rw[hv];simp
 rw[hsz] at A3;have HF:=hid (FI.out v2 hb _ A3);have B2:=hid hb;have P1:=hid (zac b2' _ _ _ _ A1);have P2:=hid (zac b2' _ _ _ _ A2);have HV:=hid hv.symm;have HV2:=hid hv2.symm;have EG:=hid eg;clear hv hv2 b1' b2' A1 A2 A3 hb FI eg hsz;go_enter Tryz.func25,Tryz.ntmps25;go_wp2_with fail;have h9:=HV.out;rw[show(w.alloc (.cells #[.string ⟨a.toArray⟩,.string ⟨b.toArray⟩,.string ⟨c.toArray⟩] 64)).alloc (.cells #[.string ⟨#[]⟩,.string ⟨#[]⟩,.string ⟨#[]⟩,.slice none 0 0] 26)=v1 from h9];clear h9 HV;go_wp2_with fail;have h9:=HV2.out;rw[show v1.alloc (.cells #[.string ⟨a.toArray⟩,.string ⟨b.toArray⟩,.string ⟨c.toArray⟩] 22)=v2 from h9];clear h9 HV2 q0 q1 q2;refine HF.out.mono ?_;rintro e w1 ⟨rfl,hb1⟩;have hb:=B2.out.trans (hb1.mono B2.out.size);have B3:=hid hb;have P3:=hid (zac hb1 _ _ _ _ P1.out);have P4:=hid (zac hb1 _ _ _ _ P2.out);have HN:=hid (NU.out w1 hb);clear hb hb1 B2 P1 P2 HF NU;have q2:w1.cell? ⟨w.heap.size,2,none⟩=some (St c):=by rw[zJ P3.out];rfl
 go_wp2_with fail;refine HN.out.mono ?_;rintro e w2 ⟨v,rfl,hb2,hs⟩;obtain⟨p,n,k,rfl⟩:=hs.any;have HS:=hid (⟨B3.out.trans (hb2.mono B3.out.size),zac hb2 _ _ _ _ P3.out,λ_=>zac hb2 _ _ _ _ P4.out,λk=>(by cases k),hs,λk=>(by cases k)⟩:OfS w a b c (.slice p n k) l a2 b2 c2 l2 (.slice none 0 0) (λ_=>false) w2);clear hb2 hs q2 HN B3 P3 P4;go_wp2_with fail;refine zc4 (λ(g3:Option Addr×Nat×Nat) i=>([.bool ab,.bool (!ab),.func (.func g) #[] #[],.pointer (some ⟨w.heap.size,0,none⟩),St a,St a1,.pointer (some ⟨w.heap.size,1,none⟩),St b,St b1,.slice p n k,.agg #[St a1,St b1,.string ⟨#[49]⟩,.slice p n k],.tuple #[.agg #[St a2,St b2,St c2,.slice g3.1 g3.2.1 g3.2.2],.int .i64 0],.agg #[St a2,St b2,St c2,.slice g3.1 g3.2.1 g3.2.2],.int .i64 0,undef,.int .i64 0]:List Value).getD i undef) (λg3=>OfS w a b c (.slice p n k) l a2 b2 c2 l2 (.slice g3.1 g3.2.1 g3.2.2)) (by kernel_rfl) (by kernel_rfl) (none,0,0) (HS.out.next (zM _ _).drew) λg3=>?_;refine qB (.bool ab) (λf W' h=>h.congr rfl rfl) ?_;simp only[zzQ];refine qB (.bool (!ab)) (λf W' h=>h.congr rfl rfl) ?_;simp only[zzQ]
 refine zbv (.func (.func g) #[] #[]) (by rfl) (by rfl) (λf W' hf h C' hC'=>by
  go_simp;refine(CH.out _).mono ?_;rintro e w' ⟨rfl,rfl⟩;exact⟨_,rfl,hC' _ (h.congr rfl rfl)⟩) ?_
 try simp only[zzQ]
 refine qB (.pointer (some ⟨w.heap.size,0,none⟩)) (λf W' h=>h.congr rfl rfl) ?_;simp only[zzQ];refine qB (St a) (λf W' h=>h.congr rfl rfl) ?_ (hy:=λf W' hf h=>by obtain⟨q0,q1,q2⟩:=h.cells;go_simp);simp only[zzQ]
 refine zbv (St a1) (by rfl) (by rfl) (λf W' hf h C' hC'=>by
  go_simp;refine(O1.out _ (HW.out _ h.bel)).mono ?_;rintro e w' ⟨rfl,hb⟩;exact⟨_,rfl,hC' _ ((h.next hb).congr rfl rfl)⟩) ?_
 try simp only[zzQ]
 refine qB (.pointer (some ⟨w.heap.size,1,none⟩)) (λf W' h=>h.congr rfl rfl) ?_;simp only[zzQ];refine qB (St b) (λf W' h=>h.congr rfl rfl) ?_ (hy:=λf W' hf h=>by obtain⟨q0,q1,q2⟩:=h.cells;go_simp);simp only[zzQ]
 refine zbv (St b1) (by rfl) (by rfl) (λf W' hf h C' hC'=>by
  go_simp;refine(O2.out _ (HW.out _ h.bel)).mono ?_;rintro e w' ⟨rfl,hb⟩;exact⟨_,rfl,hC' _ ((h.next hb).congr rfl rfl)⟩) ?_
 try simp only[zzQ]
 refine qB (.slice p n k) (λf W' h=>h.congr rfl rfl) ?_;simp only[zzQ];refine qB (.agg #[St a1,St b1,.string ⟨#[49]⟩,.slice p n k]) (λf W' h=>h.congr rfl rfl) ?_;simp only[zzQ]
 refine zdc (.tuple #[.agg #[St a2,St b2,St c2,.slice g3.1 g3.2.1 g3.2.2],.int .i64 0]) (by rfl) (by rfl) (λf W' hf h C' hC'=>by
  have h11:=hf.self;have h12:=hf.no (j:=12) hf.self (by kernel_rfl);have h14:=hf.no (j:=14) h12 (by kernel_rfl);have hg:=GO.out W' p n k h.bel h.sv;have heg:=EG.out;go_simp;refine hg.mono ?_;rintro e w' ⟨u0,rfl,hb,hu⟩;obtain⟨u1,u2,u3,rfl⟩:=hu.any;have hj:∀j,f j=true->(([.bool ab,.bool (!ab),.func (.func g) #[] #[],.pointer (some ⟨w.heap.size,0,none⟩),St a,St a1,.pointer (some ⟨w.heap.size,1,none⟩),St b,St b1,.slice p n k,.agg #[St a1,St b1,.string ⟨#[49]⟩,.slice p n k],.tuple #[.agg #[St a2,St b2,St c2,.slice u1 u2 u3],.int .i64 0],.agg #[St a2,St b2,St c2,.slice u1 u2 u3],.int .i64 0,undef,.int .i64 0]:List Value).getD j undef)=(([.bool ab,.bool (!ab),.func (.func g) #[] #[],.pointer (some ⟨w.heap.size,0,none⟩),St a,St a1,.pointer (some ⟨w.heap.size,1,none⟩),St b,St b1,.slice p n k,.agg #[St a1,St b1,.string ⟨#[49]⟩,.slice p n k],.tuple #[.agg #[St a2,St b2,St c2,.slice g3.1 g3.2.1 g3.2.2],.int .i64 0],.agg #[St a2,St b2,St c2,.slice g3.1 g3.2.1 g3.2.2],.int .i64 0,undef,.int .i64 0]:List Value).getD j undef):=by
   intro j hj
   match j,hj with
   |0,_|1,_|2,_|3,_|4,_|5,_|6,_|7,_|8,_|9,_|10,_|13,_|14,_|15,_=>rfl
   |11,hj=>rw[h11] at hj;cases hj
   |12,hj=>rw[h12] at hj;cases hj
   |_+16,_=>rfl
  exact⟨_,rfl,hC' (u1,u2,u3) _ hj (h.res hb hu h14 rfl)⟩) ?_
 try simp only[zzQ]
 refine qB (.agg #[St a2,St b2,St c2,.slice g3.1 g3.2.1 g3.2.2]) (λf W' h=>h.congr rfl rfl) ?_;simp only[zzQ];refine qB (.int .i64 0) (λf W' h=>h.congr rfl rfl) ?_;simp only[zzQ]
 refine zbv undef (by rfl) (by rfl) (λf W' hf h C' hC'=>by
  have h14:=hf.self;have h11:=hf.done 11 (by kernel_rfl);obtain⟨d0,d1,d2,d3⟩:=h.old h14;obtain⟨f0,f1,f2,f3⟩:=h.soft h14;have:=hC' _ (h.put h14);go_simp;exact this) ?_
 try simp only[Act.put]
 refine qB (.int .i64 0) (λf W' h=>h.congr rfl rfl) ?_;simp only[zzQ];refine ze1 λf X hf h=>?_;obtain⟨c0,c1,c2',c3⟩:=h.new (hf 14 (by decide));have hF:=hid (⟨h.bel,h.sd (hf 11 (by decide))⟩:_/\_);clear h hf HS;go_wp2_with fail;exact bodyPost_ret (v:=.tuple #[.agg #[St a2,St b2,St c2,.slice g3.1 g3.2.1 g3.2.2],.int .i64 0]) (by simp[results,Tryz.results25,go_sem,c0,c1,c2',c3]) rfl ⟨_,rfl,hF.out.1,hF.out.2⟩
end
end Go.Proofs.YtheinkfbiedidaaGreatDoor
