/- surd.Check of surds of up to two terms of short numbers. -/
import Derived.Test.YtgeapfaiacoajaaGreatDoorZ11
import Derived.LaidByTextLater
set_option maxRecDepth 100000
set_option maxHeartbeats 8000000
open Go renaming World → zA, Calls → zC
open Go.RowKit renaming Below → zB, intOf → zL
open Go.Lib renaming decDigits → zD
open Go.Proofs.Tryz renaming prog → zF
open Go.World renaming alloc_heap_new → zG, size_alloc → zH
open Go.Joins renaming cell_of_block → zJ, block_setCell → zK
open Go.RowKit.Below renaming refl → zM, heap_setCell → yE
open Nat renaming le_refl → zN, le_trans → zO, pow_le_pow_right → yF, pos_of_ne_zero → yS
open List renaming getElem?_eq_getElem → yB, append_nil → yH
namespace Go.Proofs.YtgeapfaiacoajaaGreatDoor
section
open Go.RowKit Go.Shelf Lib Str Limb Geo
attribute [local go_sem] Oper.semAt_some
def GoT (x y:List UInt8) (c:Rat) (r:Nat):Prop:=x=numS c/\sz c 8/\y=zD r/\r<10^8/\TrmR c r
def GoE (x y:List UInt8):Prop:=∃c r,GoT x y c r
theorem z6b {q:Rat} (h1:Lib.hasPrefix (numS q) [45]=false) (h2:decide (0<=Lib.indexByte (numS q) 47)=false):∃n:Nat,numS q=zD n/\q=(n:Rat):=by
 have hd:q.den=1:=by
  rw[<-Lib.contains_iff_indexByte,Bool.eq_false_iff] at h2;refine Classical.byContradiction λhd=>h2 (List.contains_iff_mem.2 ?_);unfold numS;rw[if_neg hd];exact List.mem_append_right _ (List.mem_cons_self ..)
 have e:numS q=itoa q.num:=by unfold numS;rw[if_pos hd,yH]
 have hn:¬q.num<0:=λhn=>by
  rw[e,zdx,decide_eq_true hn] at h1;cases h1
 obtain⟨n,hnn⟩:∃n:Nat,q.num=(n:Int):=⟨q.num.toNat,by omega⟩;refine⟨n,by rw[e,hnn,Str.zad],?_⟩;have:=Rat.num_divInt_den q;rw[hd,hnn] at this;rw[<-this,<-z2p n 1,show((1:Nat):Rat)=1 by decide+kernel];grind
theorem z6t (x:List UInt8) (W:zA):qJ 98 #[St x,.string ⟨#[45]⟩] W (.bool (Lib.hasPrefix x [45])):=by
 have:=Tryz.strings_HasPrefix ⟨x.toArray⟩ ⟨#[45]⟩ W;refine this.mono ?_;rintro e w' ⟨rfl,rfl⟩;exact⟨rfl,zM _ _⟩
theorem z6e (x:List UInt8) (W:zA):qJ 125 #[St x,.string ⟨#[47]⟩] W (.bool (decide (0<=Lib.indexByte x 47))):=by
 have:=Tryz.strings_Contains_one ⟨x.toArray⟩ 47 W;refine this.mono ?_;rintro e w' ⟨rfl,rfl⟩;exact⟨rfl,zM _ _⟩
theorem z4l (x y:List UInt8) (hx:shT x) (hy:shT y) (w:zA) (hw:Wd w) (hp:Pw w):
 zC zF 74 #[.agg #[St x,St y]] w (ErrP w (GoE x y)):=by
 obtain⟨lx,c,rfl,hc⟩:=hx;obtain⟨ly,q,rfl,hq⟩:=hy;have sc:=zto (by omega) lx;have sq:=zto (by omega) ly;have dc:=zok (k:=8) (by omega) sc;have dq:=zok (k:=8) (by omega) sq;have dc2:digs (c.den:Int)<=8:=by rw[zd9];exact dc.2
 have dq2:digs (q.den:Int)<=8:=by rw[zd9];exact dq.2
 have d1:zD 1=[49]:=by rw[zae (by omega)];rfl
 have hnz:(ByteArray.toList ⟨(numS c).toArray⟩==[48])=false->c≠0:=λh e=>by
  rw[ByteArray.toList_eq,beq_eq_false_iff_ne] at h;exact h (by rw[e];exact zie)
 refine z3l ⟨(numS c).toArray⟩ ⟨(numS q).toArray⟩ _ _ _ _ (by have:=dc.1;omega) (by have:=dq.1;omega) (hid λW hW=>zfj c hc W hW) (hid λW hW=>zfj q hq W hW) (hid λW hW=>znp c hc W hW) (hid λW hW=>znp q hq W hW) (hid λW=>z6t (numS q) W) (hid λW=>z6e (numS q) W) (GoE (numS c) (numS q)) (hid λh0 h1=>?_) (hid λh0 h1 h2 h3=>?_) w (hid hw) (hid hp)
 ·rw[ByteArray.toList_eq,beq_iff_eq] at h1
  have h1:numS q=[49]:=h1;exact⟨c,1,rfl,sc,by rw[h1,d1],by omega,hnz h0,sc.mono (by omega),zyl.1⟩
 ·obtain⟨n,hn,hqn⟩:=z6b h1 h2
  have hl:(zD n).length<=8:=by rw[<-hn];exact ly
  have hlt:n<10^8:=(zaf n 8 (by omega)).1 hl;have n0:0<n:=by
   rw[ByteArray.toList_eq,beq_eq_false_iff_ne] at h3;refine yS λe=>h3 ?_;show numS q=[48];rw[hn,e];exact zdj
  rw[hn];refine⟨⟨(zD (zn7 n).1).toArray⟩,⟨(zD (zn7 n).2).toArray⟩,λhk hl2=>?_,λW hW hP=>z4c n n0 (by omega) W hW hP⟩;rw[ByteArray.toList_eq,beq_iff_eq] at hk;rw[ByteArray.toList_eq,ByteArray.toList_eq,beq_iff_eq] at hl2;have hk:zD (zn7 n).1=zD 1:=by rw[d1];exact hk
  have hl2:zD (zn7 n).2=zD n:=hl2;have inj:∀a b:Nat,zD a=zD b->a=b:=λa b h=>by
   rw[<-Str.zad,<-Str.zad] at h;have:=zdo h;omega
  exact⟨c,n,rfl,sc,rfl,hlt,hnz h0,sc.mono (by omega),n0,by omega,Prod.ext (inj _ _ hk) (inj _ _ hl2)⟩
def SdT (v:Value) (l:List (List UInt8×List UInt8)) (W:zA):Prop:=
 (v=.slice none 0 0/\l=[])\/∃b off cap,v=.slice (some ⟨b,off,none⟩) l.length cap/\l.length<=cap/\b<W.heap.size/\
   ∀i t,l[i]? =some t->W.cell? ⟨b,off+i*2,none⟩=some (St t.1)/\W.cell? ⟨b,off+i*2+1,none⟩=some (St t.2)
theorem SdT.below {v:Value} {l:List (List UInt8×List UInt8)} {W W':zA} (h:SdT v l W) (hb:qL W W'):SdT v l W':=by
 rcases h with h|⟨b,off,cap,e,hc,hl,hx⟩
 ·exact .inl h
 ·exact .inr ⟨b,off,cap,e,hc,Nat.lt_of_lt_of_le hl hb.size,λi t ht=>⟨zai hb (hx i t ht).1,zai hb (hx i t ht).2⟩⟩
theorem SdT.slice {v:Value} {l:List (List UInt8×List UInt8)} {W:zA} (h:SdT v l W):∃p cap,v=.slice p l.length cap/\l.length<=cap/\∀i t,l[i]? =some t->∃b off,p=some ⟨b,off,none⟩/\b<W.heap.size/\W.cell? ⟨b,off+i*2,none⟩=some (St t.1)/\W.cell? ⟨b,off+i*2+1,none⟩=some (St t.2):=by
 rcases h with⟨rfl,rfl⟩|⟨b,off,cap,e,hc,hl,hx⟩
 ·exact⟨none,0,rfl,zN _,λi t ht=>by simp at ht⟩
 ·exact⟨_,cap,e,hc,λi t ht=>⟨b,off,rfl,hl,hx i t ht⟩⟩
theorem SdT.any {v:Value} {l:List (List UInt8×List UInt8)} {W:zA} (h:SdT v l W):∃q n c,v=.slice q n c:=by
 obtain⟨p,cap,e, -⟩:=h.slice;exact⟨_,_,_,e⟩
theorem SdT.sd {v:Value} {l:List (List UInt8×List UInt8)} {D:List (Rat×Nat)} {W:zA} (h:SdT v l W) (e:l=D.map strT):SdL v D W:=by
 subst e;rcases h with⟨h1,h2⟩|⟨b,off,cap,e,hc,hl,hx⟩
 ·exact .inl ⟨h1,by simpa using h2⟩
 ·rw[List.length_map] at e hc
  exact .inr ⟨b,off,cap,e,hc,hl,λi t ht=>hx i (strT t) (by rw[List.getElem?_map,ht];rfl)⟩
def GoS (l:List (List UInt8×List UInt8)) (D:List (Rat×Nat)):Prop:=l=D.map strT/\SdOk D/\D.length<=2/\∀t∈D,sz t.1 8/\t.2<10^8
def ShS (l:List (List UInt8×List UInt8)):Prop:=l.length<=2/\∀t∈l,shT t.1/\shT t.2
theorem z0d {l:List (List UInt8×List UInt8)} (hl:l.length<=2) (hP:∀(i:Nat) (t:List UInt8×List UInt8),l[i]? =some t->GoE t.1 t.2)
 (hO:∀(t u:List UInt8×List UInt8) (c d:Rat) (r s:Nat),l=[t,u]->GoT t.1 t.2 c r->GoT u.1 u.2 d s->r<s/\z5c (s:Rat) (r:Rat)=false):∃D,GoS l D:=by
 match l,hl with
 |[],_=>exact⟨[],rfl,SdOk.nil,by simp,λt h=>by cases h⟩
 |[t],_=>
  obtain⟨c,r,h1,h2,h3,h4,h5⟩:=hP 0 t rfl;refine⟨[(c,r)],by simp[strT,<-h1,<-h3],SdOk.one h5,by simp,λu hu=>?_⟩;simp at hu;subst hu;exact⟨h2,h4⟩
 |[t,u],_=>
  obtain⟨c,r,hg⟩:=hP 0 t rfl;obtain⟨d,s,hh⟩:=hP 1 u rfl;obtain⟨hlt,ha⟩:=hO t u c d r s rfl hg hh;obtain⟨h1,h2,h3,h4,h5⟩:=hg;obtain⟨k1,k2,k3,k4,k5⟩:=hh;have pr:(0:Rat)<(r:Rat):=by have:=h5.nr.pos;exact_mod_cast this
  have ps:(0:Rat)<(s:Rat):=by have:=k5.nr.pos;exact_mod_cast this
  refine⟨[(c,r),(d,s)],by simp[strT,<-h1,<-h3,<-k1,<-k3],⟨by simp,λv hv=>?_,λi a b h1 h2=>?_,λi k a b hik h1 h2=>?_⟩,by simp,λv hv=>?_⟩
  ·simp at hv
   rcases hv with rfl|rfl
   ·exact h5
   ·exact k5
  ·match i with
   |0=>simp at h1 h2;subst h1;subst h2;exact hlt
   |i+1=>simp at h2
  ·match i,k with
   |0,0=>exact absurd rfl hik
   |0,1=>simp at h1 h2;subst h1;subst h2;exact ha
   |1,0=>simp at h1 h2;subst h1;subst h2;exact zu9 ps pr ha
   |1,1=>exact absurd rfl hik
   |i+2,_=>simp at h1
   |_,k+2=>simp at h2
  ·simp at hv
   rcases hv with rfl|rfl
   ·exact⟨h2,h4⟩
   ·exact⟨k2,k4⟩
theorem zxy (v:Value) (l:List (List UInt8×List UInt8)) (hl:ShS l) (w:zA) (hw:Wd w) (hp:Pw w) (hv:SdT v l w):
 zC zF 26 #[v] w (ErrP w (∃D,GoS l D)):=by
 obtain⟨p,cap,rfl,hc,hx⟩:=hv.slice;let X:Nat->ByteArray:=λi=>⟨((l[i]?.getD ([],[])).1).toArray⟩;let Y:Nat->ByteArray:=λi=>⟨((l[i]?.getD ([],[])).2).toArray⟩;have at_:∀i,i<l.length->∃t,l[i]? =some t:=λi hi=>⟨_,yB hi⟩;have hX:∀(i:Nat) (t:List UInt8×List UInt8),l[i]? =some t->Value.string (X i)=St t.1/\Value.string (Y i)=St t.2:=λi t h=>⟨by show Value.string ⟨((l[i]?.getD ([],[])).1).toArray⟩=_;rw[h];rfl,by show Value.string ⟨((l[i]?.getD ([],[])).2).toArray⟩=_;rw[h];rfl⟩;have key:∀t u:List UInt8×List UInt8,l=[t,u]->∀c d r s,GoT t.1 t.2 c r->GoT u.1 u.2 d s->(∃c0:Int,(c0<0->r<s)/\qK 9 #[St t.2,St u.2] (.tuple #[.int .i64 c0,.int .i64 0])):=λt u _ c d r s hg hh=>by
  obtain⟨h1,h2,h3,h4,h5⟩:=hg;obtain⟨k1,k2,k3,k4,k5⟩:=hh;have sr:sz (r:Rat) 16:=zrg (by omega) h5.nr.len;have ss:sz (s:Rat) 16:=zrg (by omega) k5.nr.len;refine⟨cmpR (r:Rat) (s:Rat),λh=>?_,λW hW=>?_⟩
  ·have hc:=zaw (r:Rat) (s:Rat)
   have:(r:Rat)<(s:Rat):=by grind
   exact_mod_cast this
  ·have:=zgq (r:Rat) (s:Rat) 16 16 (by omega) (by omega) (by omega) sr ss W hW
   rw[zhe,zhe] at this;rw[h3,k3];exact this
 let OR:Prop:=∀t u c d r s,l=[t,u]->GoT t.1 t.2 c r->GoT u.1 u.2 d s->r<s;let UL:Prop:=∀t u c d r s,l=[t,u]->GoT t.1 t.2 c r->GoT u.1 u.2 d s->z5c ((s:Nat):Rat) ((r:Nat):Rat)=false;have two:1<l.length->∃t u,l=[t,u]:=λh=>by
  match l,hl.1,h with
  |[t,u],_,_=>exact⟨t,u,rfl⟩
 have uniq:∀{x y:List UInt8} {c d:Rat} {r s:Nat},GoT x y c r->GoT x y d s->r=s:=λh1 h2=>by
  have e:=h1.2.2.1.symm.trans h2.2.2.1;rw[<-Str.zad,<-Str.zad] at e;have:=zdo e;omega
 have main:=zzl p cap l.length X Y hl.1 hc (λi=>∀t,l[i]? =some t->GoE t.1 t.2) OR UL
  (hid λi hi W hW hP=>by
    obtain⟨t,ht⟩:=at_ i hi;rw[(hX i t ht).1,(hX i t ht).2];have hm:=hl.2 t (List.mem_of_getElem? ht);refine(z4l t.1 t.2 hm.1 hm.2 W hW hP).mono λe w' ⟨r,e1,e2,e3⟩=>⟨r,e1,λh t' ht'=>?_,e3⟩;rw[ht] at ht';injection ht' with ht';subst ht';exact e2 h)
  (hid λh1 h2 h3=>by
    obtain⟨t,u,e⟩:=two h1;have ht:l[0]? =some t:=by rw[e];rfl
    have hu:l[1]? =some u:=by rw[e];rfl
    obtain⟨c,r,hg⟩:=h2 t ht;obtain⟨d,s,hh⟩:=h3 u hu;obtain⟨c0,k1,k2⟩:=key t u e c d r s hg hh;rw[(hX 0 t ht).2,(hX 1 u hu).2];refine⟨c0,λh t' u' c' d' r' s' e' hg' hh'=>?_,k2⟩;rw[e] at e';obtain⟨rfl,rfl⟩:t=t'/\u=u':=by simpa using e'
    rw[<-uniq hg hg',<-uniq hh hh'];exact k1 h)
  (hid λh1 h2 h3=>by
    obtain⟨t,u,e⟩:=two h1;have ht:l[0]? =some t:=by rw[e];rfl
    have hu:l[1]? =some u:=by rw[e];rfl
    obtain⟨c,r,hg⟩:=h2 t ht;obtain⟨d,s,hh⟩:=h3 u hu;refine⟨z5c ((s:Nat):Rat) ((r:Nat):Rat),λh t' u' c' d' r' s' e' hg' hh'=>?_,λA W hW hr hA=>?_⟩
    ·rw[e] at e'
     obtain⟨rfl,rfl⟩:t=t'/\u=u':=by simpa using e'
     rw[<-uniq hg hg',<-uniq hh hh'];exact h
    ·obtain⟨b,off,eb,d0,d1⟩:=hr 0 (by omega)
     refine z4k p cap _ A W (hid (z4j p cap _ (X 0) (Y 0) A (λV=>V.cell? ⟨A,1,none⟩=some (.string (Y 1))) (λV V' hv hb=>(zac hb).cell hv) (hid λV hV hc=>?_) W (hid hW) (hid hA) (hid ⟨b,off,eb,by simpa using d0,by simpa using d1⟩)));have gr:=hg.2.2.1;have gs:=hh.2.2.1;have nr:=hg.2.2.2.2.nr;have ns:=hh.2.2.2.2.nr;cases ea:z5c ((s:Nat):Rat) ((r:Nat):Rat)
     ·refine z6w _ _ ⟨#[]⟩ false A _ (hid λU hU=>?_) V (hid hV) (hid hc)
      rw[(hX 1 u hu).2,(hX 0 t ht).2,gr,gs];exact zf4 s r ns nr ea U hU
     ·refine z6w _ _ ⟨(numS (rt ((s:Rat)/(r:Rat)))).toArray⟩ true A _ (hid λU hU=>?_) V (hid hV) (hid hc)
      rw[(hX 1 u hu).2,(hX 0 t ht).2,gr,gs];exact zr8 s r ns nr ea U hU)
  w (hid hw) (hid hp) (hid λi hi=>by
    obtain⟨t,ht⟩:=at_ i hi;obtain⟨b,off,e,_,c0,c1⟩:=hx i t ht;rw[(hX i t ht).1,(hX i t ht).2];exact⟨b,off,e,c0,c1⟩)
 refine main.mono λe w' ⟨r,e1,e2,e3⟩=>⟨r,e1,λh=>?_,e3⟩;obtain⟨hP,hO⟩:=e2 h;refine z0d hl.1 (λi t ht=>hP i (List.getElem?_eq_some_iff.1 ht).1 t ht) λt u c d r s el hg hh=>?_;have h1:1<l.length:=by rw[el];simp
 exact⟨(hO h1).1 t u c d r s el hg hh,(hO h1).2 t u c d r s el hg hh⟩
end
section
open Go.RowKit Go.Shelf Lib Str Limb
open Go.ChangeShapes Go.WideShapes Go.ChangeAt
theorem z11 {α:Type} (P:Nat->α->Prop):∀n,(∀i,i<n->∃x,P i x)->∃l:List α,l.length=n/\∀i (h:i<l.length),P i l[i]
 |0,_=>⟨[],rfl,λi h=>by simp at h⟩
 |n+1,h=>by
  obtain⟨l,hl,hP⟩:=z11 P n (λi hi=>h i (by omega));obtain⟨x,hx⟩:=h n (by omega);refine⟨l++[x],by simp[hl],λi hi=>?_⟩;by_cases e:i<l.length
  ·rw[List.getElem_append_left e];exact hP i e
  ·have:i=n:=by simp at hi;omega
   subst this;rw[List.getElem_append_right (by omega)];simpa using hx
theorem z0k {P:Program} {W:zA} {r:Reach} {base:Nat} {t e:TypeId} {a:Addr} {n c:Nat} (ht:P.underlying t=some (.slice e)) (h:Cell.okWide P W r base t (.slice (some a) n c)):a.spot=none/\a.block<W.heap.size:=by
 simp only[Cell.okWide,ht,Cell.ok] at h;obtain⟨_,_,_,h1,row,cells,h2,_⟩:=h;refine⟨h1,?_⟩;refine Classical.byContradiction λhn=>?_;have:W.heap[a.block]? =none:=by simp;omega
 unfold World.shape? at h2;simp[this] at h2
theorem zu8 {H:Type} {enc:TypeId×Value->H} {W:zA} {base fuel:Nat} {sp:Nat->Bool} {held:Bool} {cs:List Value} {x:DataW H×List MemPlace}
 (hd:DataW.trod enc zF W base sp held fuel 24 cs=some x) (hin:∀a n c,cs=[.slice (some a) n c]->a.spot=none/\a.block<W.heap.size):∃v l,cs=[v]/\SdT v l W:=by
 rcases DataW.trod_slice Tryz.underlying24 hd with⟨hcs,hx⟩|⟨a,len,cap,elems,rest,n,_,hcs,hx,hb,hl,hm,hlen,hel,_,_⟩
 ·exact⟨_,[],hcs,.inl ⟨rfl,rfl⟩⟩
 obtain⟨hsp,hbl⟩:=hin a len cap hcs;rw[show Tryz.prog.cellsOf 69=2 by kernel_rfl] at hel;have each:∀i,i<len->∃x:List UInt8×List UInt8,W.cell? (a.add (i*2))=some (St x.1)/\W.cell? ((a.add (i*2)).add 1)=some (St x.2):=by
  intro i hi;have h1:=hel i hi;rw[yB (by omega),Option.bind_eq_some_iff] at h1;obtain⟨cs,hcs,htr⟩:=h1;obtain⟨_,hcl,hce⟩:=World.cells?_some hcs;obtain⟨y0,y1,n',_,_,h0,h1⟩:=trod_struct2 Tryz.underlying69 htr;obtain⟨s0,e0,_,_⟩:=DataW.trod_string Tryz.underlying22 h0;obtain⟨s1,e1,_,_⟩:=DataW.trod_string Tryz.underlying22 h1;rw[show Tryz.prog.cellsOf 22=1 by kernel_rfl] at e0 e1
  match cs,hcl with
  |[c0,c1],_=>
   have k0:c0=.string s0:=by simpa using e0
   have k1:c1=.string s1:=by simpa using e1
   subst k0;subst k1;have g0:=hce 0 (by omega);have g1:=hce 1 (by omega);refine⟨(s0.data.toList,s1.data.toList),?_,?_⟩
   ·simpa [St,Addr.add] using g0
   ·simpa [St,Addr.add] using g1
 obtain⟨l,hll,hP⟩:=z11 _ len each;subst hll;obtain⟨b,off,spot⟩:=a;have hspot:spot=none:=hsp;subst hspot;refine⟨_,l,hcs,.inr ⟨b,off,cap,rfl,hl,hbl,λi t ht=>?_⟩⟩;obtain⟨hi,et⟩:=List.getElem?_eq_some_iff.1 ht;obtain⟨h0,h1⟩:=hP i hi;have ap:∀k,(⟨b,off,none⟩:Addr).add k=⟨b,off+k,none⟩:=λk=>by unfold Addr.add;split<;>simp_all
 have ap1:∀k,(⟨b,off+k,none⟩:Addr).add 1=⟨b,off+k+1,none⟩:=λk=>by unfold Addr.add;simp
 rw[ap] at h0 h1;rw[ap1] at h1;rw[<-et];exact⟨h0,h1⟩
theorem z2k {H:Type} {enc:TypeId×Value->H} {W:zA} {base:Nat} {sp:Nat->Bool} {held:Bool} {t:TypeId} {f0 f1 f2:Field} {fuel:Nat} {cs:List Value} {x:DataW H×List MemPlace} (ht:Tryz.prog.underlying t=some (.struct #[f0,f1,f2])) (h:DataW.trod enc zF W base sp held fuel t cs=some x):
 ∃y0 y1 y2 n,x=(.agg [y0.1,y1.1,y2.1],y0.2++y1.2++y2.2)/\DataW.trod enc zF W base sp held n f0.type ((cs.drop f0.offset).take (Tryz.prog.cellsOf f0.type))=some y0/\
  DataW.trod enc zF W base sp held n f1.type ((cs.drop f1.offset).take (Tryz.prog.cellsOf f1.type))=some y1/\DataW.trod enc zF W base sp held n f2.type ((cs.drop f2.offset).take (Tryz.prog.cellsOf f2.type))=some y2:=by
 obtain⟨xs,n,_,rfl, -,hlen,hf⟩:=DataW.trod_struct ht h
 match xs,hlen with
 |[y0,y1,y2],_=>exact⟨y0,y1,y2,n,by simp,by simpa using hf 0 f0 rfl,by simpa using hf 1 f1 rfl,by simpa using hf 2 f2 rfl⟩
theorem z3z {H:Type} {enc:TypeId×Value->H} {W:zA} {base:Nat} {sp:Nat->Bool} {held:Bool} {t:TypeId} {f0 f1 f2 f3:Field} {fuel:Nat} {cs:List Value} {x:DataW H×List MemPlace} (ht:Tryz.prog.underlying t=some (.struct #[f0,f1,f2,f3])) (h:DataW.trod enc zF W base sp held fuel t cs=some x):
 ∃y0 y1 y2 y3 n,DataW.trod enc zF W base sp held n f0.type ((cs.drop f0.offset).take (Tryz.prog.cellsOf f0.type))=some y0/\
  DataW.trod enc zF W base sp held n f1.type ((cs.drop f1.offset).take (Tryz.prog.cellsOf f1.type))=some y1/\DataW.trod enc zF W base sp held n f2.type ((cs.drop f2.offset).take (Tryz.prog.cellsOf f2.type))=some y2/\
  DataW.trod enc zF W base sp held n f3.type ((cs.drop f3.offset).take (Tryz.prog.cellsOf f3.type))=some y3:=by
 obtain⟨xs,n,_,rfl, -,hlen,hf⟩:=DataW.trod_struct ht h
 match xs,hlen with
 |[y0,y1,y2,y3],_=>exact⟨y0,y1,y2,y3,n,by simpa using hf 0 f0 rfl,by simpa using hf 1 f1 rfl,by simpa using hf 2 f2 rfl,by simpa using hf 3 f3 rfl⟩
theorem z0l {W:zA} {r:Reach} {b0:Nat} {t:TypeId} {v:Value} {fs:Array Field} {ts:List TypeId} (ht:Tryz.prog.underlying t=some (.struct fs)) (hts:Tryz.prog.cellTypes Tryz.prog.depth t=some ts) (h:Value.okWide zF W r b0 t v):
 ∃cs:Array Value,v=.agg cs/\cs.size=Tryz.prog.cellsOf t/\∀i c,cs[i]? =some c->∃u,ts[i%ts.length]? =some u/\Cell.okWide zF W r b0 u c:=by
 simp only[Value.okWide,ht] at h;obtain⟨cs,h1,h2,ts',h3,_,h4⟩:=h;rw[hts] at h3;cases h3;exact⟨cs,h1,h2,h4⟩
theorem z30 {H:Type} {enc:TypeId×Value->H} {W:zA} {base:Nat} {sp:Nat->Bool} {held:Bool} {r:Reach} {b0:Nat} {v:Value} {d:DataW H} {ps:List MemPlace}
 (hval:Value.okWide zF W r b0 26 v) (hd:DataW.Trod enc zF W base sp held 26 v d ps):∃(x y z:List UInt8) (u:Value) (l:List (List UInt8×List UInt8)),v=.agg #[St x,St y,St z,u]/\SdT u l W:=by
 obtain⟨cs,rfl,hs,hok⟩:=z0l (ts:=[22,22,22,24]) Tryz.underlying26 (by kernel_rfl) hval;rw[show Tryz.prog.cellsOf 26=4 by kernel_rfl] at hs;obtain⟨fuel,hf⟩:=hd;obtain⟨y0,y1,y2,y3,n,h0,h1,h2,h3⟩:=z3z Tryz.underlying26 hf;obtain⟨s0,e0,_,_⟩:=DataW.trod_string Tryz.underlying22 h0;obtain⟨s1,e1,_,_⟩:=DataW.trod_string Tryz.underlying22 h1;obtain⟨s2,e2,_,_⟩:=DataW.trod_string Tryz.underlying22 h2;rw[show Tryz.prog.cellsOf 22=1 by kernel_rfl] at e0 e1 e2;rw[show Tryz.prog.cellsOf 24=1 by kernel_rfl] at h3;obtain⟨l⟩:=cs
 match l,hs with
 |[c0,c1,c2,c3],_=>
  have k0:c0=.string s0:=by simpa [Value.cells] using e0
  have k1:c1=.string s1:=by simpa [Value.cells] using e1
  have k2:c2=.string s2:=by simpa [Value.cells] using e2
  subst k0;subst k1;subst k2;obtain⟨u,tl,hu,hsd⟩:=zu8 h3 (λa m c hc=>by
   have hc3:c3=.slice (some a) m c:=by simpa [Value.cells] using hc
   obtain⟨u,hu,hcell⟩:=hok 3 c3 rfl;have:u=24:=by simpa using hu.symm
   subst this;subst hc3;exact z0k Tryz.underlying24 hcell)
  have hc3:c3=u:=by simpa [Value.cells] using hu
  subst hc3;exact⟨s0.data.toList,s1.data.toList,s2.data.toList,c3,tl,by simp[St],hsd⟩
theorem z31 {H:Type} {enc:TypeId×Value->H} {W:zA} {base:Nat} {sp:Nat->Bool} {held:Bool} {r:Reach} {b0:Nat} {v:Value} {d:DataW H} {ps:List MemPlace}
 (hval:Value.okWide zF W r b0 28 v) (hd:DataW.Trod enc zF W base sp held 28 v d ps):∃(u0 u1 u2:Value) (l0 l1 l2:List (List UInt8×List UInt8)),v=.agg #[u0,u1,u2]/\SdT u0 l0 W/\SdT u1 l1 W/\SdT u2 l2 W:=by
 obtain⟨cs,rfl,hs,hok⟩:=z0l (ts:=[24,24,24]) Tryz.underlying28 (by kernel_rfl) hval;rw[show Tryz.prog.cellsOf 28=3 by kernel_rfl] at hs;obtain⟨fuel,hf⟩:=hd;obtain⟨y0,y1,y2,n,_,h0,h1,h2⟩:=z2k Tryz.underlying28 hf;rw[show Tryz.prog.cellsOf 24=1 by kernel_rfl] at h0 h1 h2;obtain⟨l⟩:=cs
 match l,hs with
 |[c0,c1,c2],_=>
  have inn:∀(i:Nat) (c:Value),i<3->[c0,c1,c2][i]? =some c->∀a m k,c=.slice (some a) m k->a.spot=none/\a.block<W.heap.size:=λi c hi hc a m k e=>by
   obtain⟨u,hu,hcell⟩:=hok i c (by simpa using hc);have:u=24:=by
    match i,hi with
    |0,_|1,_|2,_=>simpa using hu.symm
   subst this;subst e;exact z0k Tryz.underlying24 hcell
  obtain⟨u0,t0,e0,s0⟩:=zu8 h0 (λa m c hc=>inn 0 c0 (by omega) rfl a m c (by simpa [Value.cells] using hc));obtain⟨u1,t1,e1,s1⟩:=zu8 h1 (λa m c hc=>inn 1 c1 (by omega) rfl a m c (by simpa [Value.cells] using hc));obtain⟨u2,t2,e2,s2⟩:=zu8 h2 (λa m c hc=>inn 2 c2 (by omega) rfl a m c (by simpa [Value.cells] using hc));have k0:c0=u0:=by simpa [Value.cells] using e0
  have k1:c1=u1:=by simpa [Value.cells] using e1
  have k2:c2=u2:=by simpa [Value.cells] using e2
  subst k0;subst k1;subst k2;exact⟨c0,c1,c2,t0,t1,t2,rfl,s0,s1,s2⟩
theorem z80 {l:List (String×DataW Unit)} {W:zA} (hL:laidMet zF l W) (hm:("kingpost/surd.signPlaces",Rows.laid_kingpost_surd_signPlaces)∈l):Spw W:=by
 obtain⟨g,t,cs,fuel,p,hg,ht,hv,hd⟩:=Lib.laidMet.reads hL hm;obtain rfl:g=0:=Option.some.inj (hg.symm.trans (by kernel_rfl));obtain rfl:t=220:=Option.some.inj (ht.symm.trans (by kernel_rfl));have e:(Rows.laid_kingpost_surd_signPlaces:DataW Unit)=Lib.tabData .i64 [4,16,64]:=by kernel_rfl
 rw[e] at hd;have hc:=Lib.cells_of_tab (n:=3) Tryz.underlying220 Tryz.underlying3 (by kernel_rfl) (by kernel_rfl) hd;obtain rfl:cs=spV:=Array.toList_inj.1 (hc.trans (by kernel_rfl));exact⟨hv⟩
end
section
open Go.RowKit Go.Shelf Lib Str Limb
attribute [local go_sem] Oper.semAt_some
theorem z4v {q:Rat} {k:Nat} (h:sz q k):sz (q* -1) k:=by
 rw[Rat.mul_neg,Rat.mul_one];exact⟨by rw[show(-q).num= -q.num from rfl,Int.natAbs_neg];exact h.1,h.2⟩
theorem zvn {l:List (Rat×Nat)} (h:SdOk l):SdOk (sclL l (-1)):=zpk h (by decide) λt ht=>z4v (h.trm t ht).sc
theorem z4w (v1 v2:Value) (l1 l2:List (Rat×Nat)) (ok1:SdOk l1) (ok2:SdOk l2) (hlen:l1.length+l2.length<=12) (w:zA) (HW:Hid (∀W,qL w W->Wd W)) (HP:Hid (∀W,qL w W->Pw W)) (h1:SdL v1 l1 w) (h2:SdL v2 l2 w):
 zC zF 17 #[v1,v2] w (MkOut (mkG (l1++l2)) w):=by
 obtain⟨p1,n1,c1,e1⟩:=h1.any;obtain⟨p2,n2,c2,e2⟩:=h2.any;exact z0n v1 v2 (λv W=>SdL v (l1++l2) W) (λv r W=>MkR (mkG (l1++l2)) v r W) w
  (hid (z6g v1 v2 (λW=>qL w W) (λW W' h h'=>h.trans (h'.mono h.size)) (hid λW hW=>zbh v1 l1 ok1 W (HW.out W hW) (HP.out W hW) (h1.below hW)) (hid λW hW=>zbh v2 l2 ok2 W (HW.out W hW) (HP.out W hW) (h2.below hW)) w (zM _ _)))
  (hid λW b hW k0 k1=>zj8 b v1 v2 l1 l2 (by omega) W (h1.below hW) (h2.below hW) k0 k1)
  (hid λW v hW hv=>z23 (l1++l2) (zz7 ok1 ok2 hlen) v W (hid λV hV=>HW.out V (hW.trans (hV.mono hW.size))) (hid λV hV=>HP.out V (hW.trans (hV.mono hW.size))) hv)
  p1 p2 n1 n2 c1 c2 e1 e2 (hid λv W h=>h.any)
theorem z6n (v1 v2:Value) (l1 l2:List (Rat×Nat)) (ok1:SdOk l1) (ok2:SdOk l2) (hlen:l1.length+l2.length<=12) (w:zA) (HW:Hid (∀W,qL w W->Wd W)) (HP:Hid (∀W,qL w W->Pw W)) (h1:SdL v1 l1 w) (h2:SdL v2 l2 w):
 zC zF 50 #[v1,v2] w (MkOut (mkG (l1++sclL l2 (-1))) w):=by
 obtain⟨p1,c1,e1, -⟩:=h1.slice;obtain⟨p2,c2,e2, -⟩:=h2.slice;have hl2:(sclL l2 (-1)).length=l2.length:=by simp[sclL]
 subst e1;subst e2;exact z0o p1 p2 l1.length l2.length c1 c2 (l1++sclL l2 (-1)).length (λq d W=>SdL (.slice q l2.length d) (sclL l2 (-1)) W) (λq d W=>SdL (.slice q (l1++sclL l2 (-1)).length d) (l1++sclL l2 (-1)) W) (λv r W=>MkR (mkG (l1++sclL l2 (-1))) v r W) w
  (hid (z6g _ _ (λW=>qL w W) (λW W' h h'=>h.trans (h'.mono h.size)) (hid λW hW=>zbh _ l1 ok1 W (HW.out W hW) (HP.out W hW) (h1.below hW)) (hid λW hW=>zbh _ l2 ok2 W (HW.out W hW) (HP.out W hW) (h2.below hW)) w (zM _ _)))
  (hid λW hW=>by
    have:=zkb _ l2 (-1) (by omega) (λt ht=>(ok2.trm t ht).sc.mono (by omega)) (zb7.2.2.2.2.1.mono (by omega)) W (hid λV hV=>HW.out V (hW.trans (hV.mono hW.size))) (h2.below hW);rw[show St (numS (-1))=.string ⟨#[45,49]⟩ by rw[nm_1]] at this;refine this.mono λe w' ⟨v',e1,hb,hv'⟩=>?_;obtain⟨q,d,e2, -⟩:=hv'.slice;rw[hl2] at e2;subst e2;exact⟨q,d,e1,hb,hv'⟩)
  (hid λW q d b hW hb hR k0 k1=>by
    obtain⟨W0,hB0,hR0,hBW⟩:=hR;refine(zj8 b _ _ l1 (sclL l2 (-1)) (by omega) W (h1.below hW) (hR0.below hBW) k0 k1).mono λe w' ⟨v,e1,hb',hv'⟩=>?_;obtain⟨q',d',e2, -⟩:=hv'.slice;subst e2;exact⟨q',d',e1,hb',hv'⟩)
  (hid λW q d hW hv=>z23 _ (zz7 ok1 (zvn ok2) (by omega)) _ W (hid λV hV=>HW.out V (hW.trans (hV.mono hW.size))) (hid λV hV=>HP.out V (hW.trans (hV.mono hW.size))) hv)
theorem zr3:∀{l:List (Rat×Nat)},(∀i t u,l[i]? =some t->l[i+1]? =some u->t.2<u.2)->IncS l
 |[],_=>List.Pairwise.nil
 |[t],_=>List.pairwise_singleton _ _
 |t::u::l,h=>by
  have h1:IncS (u::l):=zr3 λi a b ha hb=>h (i+1) a b (by simpa using ha) (by simpa using hb);have h2:=h 0 t u rfl rfl;refine List.pairwise_cons.2 ⟨λc hc=>?_,h1⟩;rcases List.mem_cons.1 hc with rfl|hc
  ·exact h2
  ·have:=(List.pairwise_cons.1 h1).1 c hc;omega
theorem zt2 {T:List (Rat×Nat)} (h:ULs T):T.foldl gaG []=T:=by
 have:=zyd (r:=[]) h T.length (zN _);rw[yH,zuk,List.take_length] at this;exact this
theorem zr6 {l:List (Rat×Nat)} (h:SdOk l) {c:Rat} (hc:c≠0) (hl:l.length<=12) (hs:∀t∈l,sz (t.1*c) 140):MkGT (sclL l c)/\mkG (sclL l c)=sclL l c:=by
 have at_:∀{i:Nat} {t:Rat×Nat},(sclL l c)[i]? =some t->∃u,l[i]? =some u/\t=(u.1*c,u.2):=λhi=>by
  unfold sclL at hi;rw[List.getElem?_map,Option.map_eq_some_iff] at hi;obtain⟨u,h1,h2⟩:=hi;exact⟨u,h1,h2.symm⟩
 have mem:∀{t:Rat×Nat},t∈sclL l c->∃u∈l,t=(u.1*c,u.2):=λht=>by
  obtain⟨u,h1,h2⟩:=List.mem_map.1 ht;exact⟨u,h1,h2.symm⟩
 have hu:ULs (sclL l c):=λi k t u hik ht hk=>by
  obtain⟨a,ha,rfl⟩:=at_ ht;obtain⟨b,hb,rfl⟩:=at_ hk;exact h.uls i k a b hik ha hb
 have hn:∀t∈sclL l c,t.1≠0:=λt ht=>by
  obtain⟨u,hu,rfl⟩:=mem ht;have:=(h.trm u hu).ne;intro e;rcases Rat.mul_eq_zero.1 e with e|e
  ·exact this e
  ·exact hc e
 have hp:PosR (sclL l c):=λt ht=>by
  obtain⟨u,hu,rfl⟩:=mem ht;exact h.pos u hu
 have hi:IncS (sclL l c):=zr3 λi t u ht hk=>by
  obtain⟨a,ha,rfl⟩:=at_ ht;obtain⟨b,hb,rfl⟩:=at_ hk;exact h.inc i a b ha hb
 have hk:keG (sclL l c)=sclL l c:=by
  unfold keG;rw[zt2 hu];exact List.filter_eq_self.2 λt ht=>by simp[hn t ht]
 refine⟨⟨by simp[sclL,hl],hn,λt ht=>?_,λt ht=>?_,λi hi c' hc'=>?_⟩,?_⟩
 ·obtain⟨u,hu,rfl⟩:=mem ht;exact hs u hu
 ·obtain⟨u,hu,rfl⟩:=mem ht;exact(h.trm u hu).nr
 ·have:=zyd (r:=[]) hu i hi
  rw[yH] at this;rw[this] at hc';obtain⟨u,hu,rfl⟩:=mem (List.mem_of_mem_take hc');exact hs u hu
 ·have hd:=z1u hp
  unfold mkG;rw[hk] at hd⊢;exact z1q (zxo hd) hi λc=>zvb c _
theorem z4g (l:List (Rat×Nat)):sclL l 1=l:=by simp[sclL,Rat.mul_one]
theorem zmx {l:List (Rat×Nat)} (h:SdOk l):mkG l=l:=by
 have:=(zr6 h (c:=1) (by decide) h.len λt ht=>by rw[Rat.mul_one];exact(h.trm t ht).sc.mono (by omega)).2;rwa [z4g] at this
theorem zeu (v:Value) (l:List (Rat×Nat)) (c:Rat) (h:SdOk l) (hl:l.length<=12) (hc:sz c 150) (hs:∀t∈l,sz (t.1*c) 140) (w:zA) (HW:Hid (∀W,qL w W->Wd W)) (HP:Hid (∀W,qL w W->Pw W)) (hv:SdL v l w):
 zC zF 11 #[v,St (numS c)] w (MkOut (sclR l c) w):=by
 obtain⟨p1,n1,c1,e1⟩:=hv.any;refine zlb v (numS c) (λv W=>SdL v (sclL l c) W) (λv r W=>MkR (sclR l c) v r W) w
  (hid (zbh v l h w (HW.out w (zM _ _)) (HP.out w (zM _ _)) hv))
  (hid λW hW=>zfj c (zd0 (by omega) (by omega) hc) W (HW.out W hW))
  (hid λW hW=>zkb v l c (by have:=h.len;omega) (λt ht=>(h.trm t ht).sc.mono (by omega)) hc W (hid λV hV=>HW.out V (hW.trans (hV.mono hW.size))) (hv.below hW))
  (hid λW v' hW hv'=>?_) p1 n1 c1 e1 (hid λv W h=>h.any)
 have HW':Hid (∀V,qL W V->Wd V):=hid λV hV=>HW.out V (hW.trans (hV.mono hW.size));have HP':Hid (∀V,qL W V->Pw V):=hid λV hV=>HP.out V (hW.trans (hV.mono hW.size));by_cases e:c=0
 ·have hr:sclR l c=[]:=by unfold sclR;rw[if_pos e]
  rw[hr];refine(zjg (sclL l c) (by have:=h.len;simp[sclL];omega) (λt ht=>?_) (λt ht=>?_) v' W HW' hv').mono λe' w' ⟨u,h1,h2,h3⟩=>?_
  ·obtain⟨u,hu,rfl⟩:=List.mem_map.1 ht
   show u.1*c=0;rw[e,Rat.mul_zero]
  ·obtain⟨u,hu,rfl⟩:=List.mem_map.1 ht
   exact(h.trm u hu).nr
  ·obtain⟨q,n,k,rfl⟩:=h3.any
   exact⟨q,n,k,0,h1,h2,.inl ⟨rfl,h3,λc hc=>by cases hc⟩⟩
 ·have hr:sclR l c=sclL l c:=by unfold sclR;rw[if_neg e]
  obtain⟨hT,hm⟩:=zr6 h e hl hs;rw[hr,<-hm];have hv2:SdL v' (sclL l c) W:=hv';exact z23 (sclL l c) hT v' W HW' HP' hv2
def rs (q:Rat):List (Rat×Nat):=if q=0 then[] else[(q,1)]
theorem za2:rs 0=[]:=by unfold rs;rw[if_pos rfl]
theorem zbz {q:Rat} (h:q≠0):rs q=[(q,1)]:=by unfold rs;rw[if_neg h]
theorem zc8 {q:Rat} (h:sz q 60):SdOk (rs q):=by
 unfold rs;split
 ·exact SdOk.nil
 ·exact SdOk.one ⟨by assumption,h,zyl.1⟩
theorem zd2 {q:Rat} {t:Rat×Nat} (h:t∈rs q):t=(q,1)/\q≠0:=by
 unfold rs at h;split at h
 ·cases h
 ·simp at h;exact⟨h,by assumption⟩
theorem zls (a:Rat) {c:Rat} (hc:c≠0):sclL (rs a) c=rs (a*c):=by
 by_cases h:a=0
 ·rw[h,Rat.zero_mul,za2];rfl
 ·rw[zbz h,zbz (λe=>by rcases Rat.mul_eq_zero.1 e with e|e;exact h e;exact hc e)];rfl
theorem zrm (a c:Rat):sclR (rs a) c=rs (a*c):=by
 unfold sclR;split
 ·rename_i h;rw[h,Rat.mul_zero,za2]
 ·rename_i h;exact zls a h
theorem ztj (a b:Rat):gaG [(a,1)] (b,1)=[(a+b,1)]:=by
 have h1:z5c ((1:Nat):Rat) ((1:Nat):Rat)=true:=by decide+kernel
 have h2:rt (((1:Nat):Rat)/((1:Nat):Rat))=1:=by decide+kernel
 show(if z5c ((1:Nat):Rat) ((1:Nat):Rat)=true then[plG (a,1) (b,1)] else _)=_;rw[if_pos h1];unfold plG;rw[if_neg (by simp)];show[(a+b*rt (((1:Nat):Rat)/((1:Nat):Rat)),1)]=_;rw[h2,Rat.mul_one]
theorem zmz (a b:Rat):mkG (rs a++rs b)=rs (a+b):=by
 have h2:∀(T:List (Rat×Nat)) (q:Rat),T.foldl gaG []=[(q,1)]->mkG T=rs q:=λT q h=>by
  unfold mkG keG;rw[h];by_cases hq:q=0
  ·rw[hq,za2];simp[srtS]
  ·rw[zbz hq];simp[hq,srtS,insS]
 by_cases ha:a=0
 ·by_cases hb:b=0
  ·rw[ha,hb,Rat.add_zero,za2];rfl
  ·rw[ha,za2,Rat.zero_add];exact h2 _ b (by rw[zbz hb];rfl)
 ·by_cases hb:b=0
  ·rw[hb,za2,Rat.add_zero,yH];exact h2 _ a (by rw[zbz ha];rfl)
  ·rw[zbz ha,zbz hb];exact h2 _ (a+b) (ztj a b)
theorem zkj (q:Rat):(rs q).length<=1:=by unfold rs;split<;>simp
theorem zlk {q:Rat} (h:sz q 60):∀t∈rs q,sz t.1 60:=λt ht=>by obtain⟨rfl,_⟩:=zd2 ht;exact h
theorem zny (v1 v2:Value) (a b:Rat) (ha:sz a 60) (hb:sz b 60) (hab:sz (a+b) 60) (w:zA) (HW:Hid (∀W,qL w W->Wd W)) (HP:Hid (∀W,qL w W->Pw W)) (h1:SdL v1 (rs a) w) (h2:SdL v2 (rs b) w):
 zC zF 17 #[v1,v2] w λe w'=>∃v,e=.returned (.tuple #[v,.int .i64 0])/\zB w.heap.size w w'/\SdL v (rs (a+b)) w':=by
 have:=z4w v1 v2 (rs a) (rs b) (zc8 ha) (zc8 hb) (by have:=zkj a;have:=zkj b;omega) w HW HP h1 h2;rw[zmz] at this;exact this.mono λe w' h=>h.ok (zlk hab)
theorem zuh {q:Rat} {k:Nat} (h:sz q k):sz (-q) k:=⟨by rw[show(-q).num= -q.num from rfl,Int.natAbs_neg];exact h.1,h.2⟩
theorem zsh (v1 v2:Value) (a b:Rat) (ha:sz a 60) (hb:sz b 60) (hab:sz (a-b) 60) (w:zA) (HW:Hid (∀W,qL w W->Wd W)) (HP:Hid (∀W,qL w W->Pw W)) (h1:SdL v1 (rs a) w) (h2:SdL v2 (rs b) w):
 zC zF 50 #[v1,v2] w λe w'=>∃v,e=.returned (.tuple #[v,.int .i64 0])/\zB w.heap.size w w'/\SdL v (rs (a-b)) w':=by
 have:=z6n v1 v2 (rs a) (rs b) (zc8 ha) (zc8 hb) (by have:=zkj a;have:=zkj b;omega) w HW HP h1 h2;rw[zls b (by decide),zmz,show a+b* -1=a-b by grind] at this;exact this.mono λe w' h=>h.ok (zlk hab)
theorem zd3 (v:Value) (a c:Rat) (ha:sz a 60) (hc:sz c 150) (hac:sz (a*c) 60) (w:zA) (HW:Hid (∀W,qL w W->Wd W)) (HP:Hid (∀W,qL w W->Pw W)) (h:SdL v (rs a) w):
 zC zF 11 #[v,St (numS c)] w λe w'=>∃v',e=.returned (.tuple #[v',.int .i64 0])/\zB w.heap.size w w'/\SdL v' (rs (a*c)) w':=by
 have:=zeu v (rs a) c (zc8 ha) (by have:=zkj a;omega) hc (λt ht=>by obtain⟨rfl,_⟩:=zd2 ht;exact hac.mono (by omega)) w HW HP h;rw[zrm] at this;exact this.mono λe w' h=>h.ok (zlk hac)
theorem zrs (v:Value) (a:Rat) (ha:sz a 60) (w:zA) (HW:Hid (∀W,qL w W->Wd W)) (HP:Hid (∀W,qL w W->Pw W)) (h:SdL v [(a,1)] w):
 zC zF 43 #[v] w λe w'=>∃v',e=.returned (.tuple #[v',.int .i64 0])/\zB w.heap.size w w'/\SdL v' (rs a) w':=by
 by_cases e:a=0
 ·subst e
  rw[za2];exact zjg [(0,1)] (by simp) (λt ht=>by simp at ht;rw[ht]) (λt ht=>by simp at ht;rw[ht];exact zyl.1) v w HW h
 ·have h2:[(a,1)]=rs a++rs 0:=by rw[za2,zbz e];rfl
  rw[h2] at h;have:=z23 (rs a++rs 0) (zz7 (zc8 ha) (zc8 (zqf 60 (by omega))) (by have:=zkj a;have:=zkj 0;omega)) v w HW HP h;rw[zmz,Rat.add_zero] at this;exact this.mono λe w' h=>h.ok (zlk ha)
theorem zkl (p:Option Addr) (cap:Nat) (w:zA):
 qJ 109 #[.slice p 0 cap] w (.tuple #[.int .i64 0,.int .i64 0]):=by
 go_enter Tryz.func109,Tryz.ntmps109;go_wp21;go_ret2;exact⟨rfl,zM _ _⟩
theorem zff (p:Option Addr) (n cap:Nat) (s e0:Int) (w:zA)
 (K:Hid (qJ 26 #[.slice p n cap] w (.int .i64 0)))
 (S:Hid (∀W:zA,qL w W->qJ 109 #[.slice p n cap] W (.tuple #[.int .i64 s,.int .i64 e0]))):
 qJ 51 #[.slice p n cap] w (.tuple #[.int .i64 s,.int .i64 e0]):=by
 go_enter Tryz.func51,Tryz.ntmps51;go_wp21;refine zzM K.out λw1 hb1=>?_;have B1:=hid hb1;have HS:=hid (S.out w1 hb1);clear hb1 S;go_wp21;refine zzM HS.out λw2 hb2=>?_;have B2:=hid (B1.out.trans (hb2.mono B1.out.size));clear hb2;go_wp21;go_ret2;exact⟨rfl,B2.out⟩
theorem zpl {Z:Nat->Int} (h:∀k,k<3->0<=Z k) (h2:0<Z 2):sgnP 1 Z=1:=by
 have r:∀k,0<=Z k->zap 1 k (Z k)=1\/zap 1 k (Z k)=0:=λk hk=>by
  unfold zap;split
  ·exact .inl rfl
  ·right;rw[if_neg (by omega)]
 have s2:zap 1 2 (Z 2)=1:=by unfold zap;rw[if_pos h2]
 unfold sgnP;rcases r 0 (h 0 (by omega)) with s0|s0<;>rcases r 1 (h 1 (by omega)) with s1|s1<;>simp[s0,s1,s2]
theorem zpo {Z:Nat->Int} (h:∀k,k<3->Z k<= -1):sgnP 1 Z= -1:=by
 have r:∀k,Z k<= -1->zap 1 k (Z k)= -1\/zap 1 k (Z k)=0:=λk hk=>by
  unfold zap;rw[if_neg (by omega)];split
  ·exact .inl rfl
  ·exact .inr rfl
 have s2:zap 1 2 (Z 2)= -1:=by
  have:=h 2 (by omega);unfold zap;rw[if_neg (by omega),if_pos (by omega)]
 unfold sgnP;rcases r 0 (h 0 (by omega)) with s0|s0<;>rcases r 1 (h 1 (by omega)) with s1|s1<;>simp[s0,s1,s2]
def flq (q:Rat) (k:Nat):Int:=floT q (q.num.natAbs*10^plN k) (q.num.natAbs*q.num.natAbs*1*10^(2*plN k))
theorem zn3 (k:Nat):plN k<=64:=by
 match k with
 |0=>decide
 |1=>decide
 |_+2=>exact zN _
theorem zpp (q:Rat) (h:sz q 60):(0<q->(∀k,k<3->0<=flq q k)/\0<flq q 2)/\(q<0->∀k,k<3->flq q k<= -1):=by
 constructor
 ·intro hq
  have hn:¬q.num<0:=by have:=Rat.num_nonneg.2 (Rat.le_of_lt hq);omega
  have hn0:0<q.num.natAbs:=by
   have:q.num≠0:=λe=>by have:=Rat.num_eq_zero.1 e;grind
   omega
  have e:∀k,flq q k=((q.num.natAbs*10^plN k/q.den:Nat):Int):=λk=>by unfold flq floT;rw[if_neg hn]
  refine⟨λk _=>by rw[e];exact Int.natCast_nonneg _,?_⟩;rw[e];have h1:q.den<=q.num.natAbs*10^plN 2:=by
   have h2:q.den<10^60:=h.2;have h3:(10:Nat)^60<=10^plN 2:=yF (by omega) (by decide);have h4:10^plN 2<=q.num.natAbs*10^plN 2:=Nat.le_mul_of_pos_left _ hn0;omega
  have:=Nat.div_pos h1 q.den_pos;omega
 ·intro hq k _
  have hn:q.num<0:=by
   rcases Int.lt_or_le q.num 0 with h|h
   ·exact h
   ·have:=Rat.num_nonneg.1 h;grind
  have hs:0<q.num.natAbs*10^plN k:=Nat.mul_pos (by omega) (yS (by simp));unfold flq floT;rw[if_pos hn];generalize q.num.natAbs*10^plN k=s at*
  split
  ·rename_i hd
   have:q.den<=s:=Nat.le_of_dvd hs (Nat.dvd_of_mod_eq_zero hd.2);have:=Nat.div_pos this q.den_pos;generalize s/q.den=x at*
   omega
  ·generalize s/q.den=x at*
   omega
theorem zrz (v:Value) (q:Rat) (h:sz q 60) (w:zA) (hw:Wd w) (hp:Spw w) (hv:SdL v (rs q) w):
 qJ 109 #[v] w (.tuple #[.int .i64 (Geo.cmpR q 0),.int .i64 0]):=by
 obtain⟨p,cap,rfl, -,hx⟩:=hv.slice;by_cases h0:q=0
 ·subst h0
  rw[show(rs 0).length=0 by rw[za2];rfl,show Geo.cmpR 0 0=0 by simp[Geo.cmpR]];exact zkl p cap w
 have hl:(rs q).length=1:=by rw[zbz h0];rfl
 rw[hl];have z48:itoa 0=[48]:=zb9;have z49:itoa 1=[49]:=by rw[show(1:Int)=((1:Nat):Int) from rfl,Str.zad,zae (by omega)];rfl
 have hsb:∀k,q.num.natAbs*10^plN k<10^124:=λk=>by
  have h1:=h.1;have h2:(10:Nat)^plN k<=10^64:=yF (by omega) (zn3 k)
  calc q.num.natAbs*10^plN k<10^60*10^plN k:=Nat.mul_lt_mul_of_pos_right h1 (yS (by simp))
   _<=10^60*10^64:=Nat.mul_le_mul_left _ h2
   _=10^124:=by rw[<-Nat.pow_add]
 have hfb:∀k,(flq q k).natAbs<=10^124:=λk=>by
  have hs:=hsb k;have hd:=Nat.div_le_self (q.num.natAbs*10^plN k) q.den;unfold flq floT;generalize q.num.natAbs*10^plN k/q.den=x at*
  split
  ·rw[Int.natAbs_neg,Int.natAbs_natCast]
   split<;>omega
  ·rw[Int.natAbs_natCast]
   omega
 have dz:∀z:Int,z.natAbs<=10^124+2->digs z<=300:=λz hz=>by
  have p1:(10:Nat)^124+2<10^125:=by decide+kernel
  exact zO (zhd (k:=125) (by omega) (by omega)) (by omega)
 have hsq:∀k,q.num.natAbs*10^plN k*(q.num.natAbs*10^plN k)=q.num.natAbs*q.num.natAbs*1*10^(2*plN k):=λk=>by
  rw[Nat.mul_one,Nat.two_mul,Nat.pow_add];ac_rfl
 have hall:=zj5 p cap 1 (by omega) (by omega) (λ_=>numS q) (λ_=>zD 1) (λk _=>flq q k) (λk i=>if i=0 then 0 else flq q k) (hid λk=>rfl)
  (hid λk i hk hi W hW=>by
    have hN:q.num.natAbs*q.num.natAbs*1*10^(2*plN k)<10^248:=by
     rw[<-hsq k];exact zcc (hsb k) (hsb k)
    exact zul q 1 (plN k) (q.num.natAbs*10^plN k) _ (zd0 (by omega) (by omega) h) h0 (by omega) (by have:=zn3 k;omega) rfl (zO (zil (by omega) hN) (by omega)) ⟨Nat.le_of_eq (hsq k),by rw[<-hsq k];exact Nat.mul_lt_mul_of_lt_of_lt (by omega) (by omega)⟩ W hW)
  (hid λk i hk hi W hW=>by
    obtain rfl:i=0:=by omega
    have hf:=hfb k;have:=zva 0 (flq q k) (dz _ (by omega)) (dz _ (by omega)) (dz _ (by omega)) W hW;rw[Int.zero_add] at this;exact this)
  (hid λk j hk hj W hW=>by
    obtain rfl:j=0:=by omega
    have hf:=hfb k;have:=zva (flq q k) 1 (dz _ (by omega)) (dz _ (by omega)) (dz _ (by omega)) W hW;rw[z49] at this;show zC _ _ #[St (itoa (flq q k+0)),_] _ _;rw[Int.add_zero];exact this)
  (hid λk j hk hj W hW=>by
    have hf:=hfb k;have:=zsx (flq q k+(j:Int)) 0 (dz _ (by omega)) (dz _ (by omega)) W;rw[z48] at this;exact this) w (hid hw) (hid hp)
  (hid λi hi=>by
    obtain rfl:i=0:=by omega
    exact hx 0 (q,1) (by rw[zbz h0];rfl))
 have hsg:(sgnP 1 λk=>if(1:Nat)=0 then 0 else flq q k)=Geo.cmpR q 0:=by
  obtain⟨f1,f2⟩:=zpp q h;have:=Geo.zaw q 0;rcases(show q<0\/0<q by grind) with c|c
  ·have e:Geo.cmpR q 0= -1:=by grind
   rw[e];exact zpo λk hk=>f2 c k hk
  ·have e:Geo.cmpR q 0=1:=by grind
   rw[e];exact zpl (λk hk=>(f1 c).1 k hk) (f1 c).2
 rw[hsg] at hall;have he:errP (Geo.cmpR q 0)=0:=by
  have:=Geo.zaw q 0;unfold errP;rw[if_neg (by grind)]
 rw[he] at hall;exact hall
theorem zp6 (v:Value) (q:Rat) (h:sz q 60) (w:zA) (HW:Hid (∀W,qL w W->Wd W)) (HP:Hid (∀W,qL w W->Pw W)) (HS:Hid (∀W,qL w W->Spw W)) (hv:SdL v (rs q) w):
 qJ 51 #[v] w (.tuple #[.int .i64 (Geo.cmpR q 0),.int .i64 0]):=by
 obtain⟨p,cap,e, -⟩:=hv.slice;subst e;exact zff p _ cap _ 0 w (hid (zbh _ (rs q) (zc8 h) w (HW.out w (zM _ _)) (HP.out w (zM _ _)) hv)) (hid λW hW=>zrz _ q h W (HW.out W hW) (HS.out W hW) (hv.below hW))
theorem zjh:z5c ((2:Nat):Rat) ((1:Nat):Rat)=false/\z5c ((1:Nat):Rat) ((2:Nat):Rat)=false:=by
 constructor<;>decide+kernel
def ab2 (a b:Rat):List (Rat×Nat):=[(a,1),(b,2)]
theorem zsj {a b:Rat} (ha:a≠0) (hb:b≠0) (sa:sz a 60) (sb:sz b 60):SdOk (ab2 a b):=by
 refine⟨by simp[ab2],λt ht=>?_,λi t u h1 h2=>?_,λi k t u hik h1 h2=>?_⟩
 ·simp[ab2] at ht
  rcases ht with rfl|rfl
  ·exact⟨ha,sa,zyl.1⟩
  ·exact⟨hb,sb,zyl.2⟩
 ·match i with
  |0=>simp[ab2] at h1 h2;subst h1;subst h2;show 1<2;omega
  |i+1=>simp[ab2] at h2
 ·match i,k with
  |0,0=>exact absurd rfl hik
  |0,1=>simp[ab2] at h1 h2;subst h1;subst h2;exact zjh.1
  |1,0=>simp[ab2] at h1 h2;subst h1;subst h2;exact zjh.2
  |1,1=>exact absurd rfl hik
  |i+2,_=>simp[ab2] at h1
  |_,k+2=>simp[ab2] at h2
def b2 (b:Rat):List (Rat×Nat):=[(b,2)]
theorem zs7 {b:Rat} (hb:b≠0) (sb:sz b 60):SdOk (b2 b):=SdOk.one ⟨hb,sb,zyl.2⟩
theorem zp8 (v:Value) (w:zA) (hw:Wd w) (hp:Spw w) (hv:SdL v (ab2 (-1) 1) w):
 qJ 109 #[v] w (.tuple #[.int .i64 1,.int .i64 0]):=by
 obtain⟨p,cap,rfl, -,hx⟩:=hv.slice;have z48:itoa 0=[48]:=zb9;have dz:∀z:Int, -1000000<z->z<1000000->digs z<=300:=λz h1 h2=>zO (zhd (k:=6) (by omega) (by show z.natAbs<1000000;omega)) (by omega)
 refine z3w p cap 2 (by omega) (by omega) (λi=>if i=0 then numS (-1) else numS 1) (λi=>if i=0 then zD 1 else zD 2) (λi=>if i=0 then itoa (-10000) else itoa 14142) (λi=>itoa (if i=0 then 0 else if i=1 then-10000 else 4142)) (λ_=>[]) 1 0 1 z48
  (hid λi hi W hW=>?_) (hid λi hi W hW=>?_) (hid λW hW=>?_) (hid (.inl ⟨by decide,rfl⟩)) w (hid hw) (hid hp) (hid λi hi=>?_)
 ·match i,hi with
  |0,_=>
   have:=zul (-1) 1 4 10000 100000000 (zm5 zb7.2.2.2.2.1) (by decide) (by omega) (by omega) (by decide+kernel) (zO (zil (k:=10) (by omega) (by omega)) (by omega)) ⟨by omega,by omega⟩ W hW;unfold floT at this;rw[if_pos (by decide),if_pos ⟨by omega,by decide+kernel⟩,show((10000/(-1:Rat).den+0:Nat):Int)=10000 by decide+kernel] at this;exact this
  |1,_=>
   have:=zul 1 2 4 14142 200000000 (zm5 zb7.2.1) (by decide) (by omega) (by omega) (by decide+kernel) (zO (zil (k:=10) (by omega) (by omega)) (by omega)) ⟨by omega,by omega⟩ W hW;unfold floT at this;rw[if_neg (by decide),show((14142/(1:Rat).den:Nat):Int)=14142 by decide+kernel] at this;exact this
 ·match i,hi with
  |0,_=>
   have:=zva 0 (-10000) (dz _ (by omega) (by omega)) (dz _ (by omega) (by omega)) (dz _ (by omega) (by omega)) W hW;exact this
  |1,_=>
   have:=zva (-10000) 14142 (dz _ (by omega) (by omega)) (dz _ (by omega) (by omega)) (dz _ (by omega) (by omega)) W hW;exact this
 ·have:=zsx 4142 0 (dz _ (by omega) (by omega)) (dz _ (by omega) (by omega)) W
  rw[z48] at this;exact this
 ·match i,hi with
  |0,_=>exact hx 0 (-1,1) rfl
  |1,_=>exact hx 1 (1,2) rfl
theorem zml (p:Option Addr) (cap n:Nat) (q:Nat->Rat) (hn:n<=5000)
 (C:Hid (∀k,k<n->qK 41 #[St (numS (q k))] (.int .i64 0)))
 (w:zA) (HW:Hid (Wd w)) (HP:Hid (RowNums p n q w)):
 qJ 77 #[.slice p n cap] w (.int .i64 0):=by
 have D0:=hid (zM w.heap.size w);go_enter Tryz.func77,Tryz.ntmps77;go_wp21;go_loopw [8] (λi wr=>∃(k:Nat),k<=n/\i=.int .i64 (k:Int)/\Hid (qL w wr))
  (λi _=>n-(zL i).toNat)
 case atStart=>exact⟨0,Nat.zero_le _,rfl,D0⟩
 case round=>
  clear D0;obtain⟨k,hk,rfl,hB⟩:=hrel;by_cases hlt:k<n
  ·obtain⟨b,off,rfl,c0⟩:=(HP.out.keep (zac hB.out)) k hlt
   have HC:=hid (C.out k hlt);generalize numS (q k)=x at*
   go_wp21;refine zzM (HC.out wr (HW.out.below hB.out)) λw2 hb2=>?_;have hB2:=hid (hB.out.trans (hb2.mono hB.out.size));clear hb2 HC;go_wp21;go_roundw
   case rel=>exact⟨k+1,by omega,by go_num,hB2⟩
   case measure=>simp[zL];omega
  ·go_wp21
   go_ret;exact⟨rfl,hB.out⟩
theorem zea (a:Rat) (k:Nat) (h0:0<k) (hk:k<=290) (h:sz a k) (w:zA) (hw:Wd w):
 qJ 79 #[St (numS a)] w (St (numS (-a))):=by
 have hc:=ztz 0 a 1 k (by omega) h0 (by omega) zb7.1 h w hw;rw[show(0:Rat)-a= -a by grind,show St (numS 0)=.string ⟨#[48]⟩ by rw[nm0]] at hc;generalize numS a=x at*
 generalize numS (-a)=y at*
 have HC:=hid hc;clear hc;go_enter Tryz.func79,Tryz.ntmps79;go_wp21;refine zzM HC.out λw1 hb=>?_;have HB:=hid hb;clear hb;go_wp21;go_ret;exact⟨rfl,HB.out⟩
theorem z5u (x:List UInt8) (R:Value->zA->Prop) (hR:Hid (∀v W,R v W->∃q n c,v=.slice q n c)) (w:zA)
 (M:Hid (∀W:zA,qL w W->W.heap[w.heap.size]? =some (.cells #[St x,.string ⟨#[49]⟩] 69 (0,0))->zC zF 43 #[.slice (some ⟨w.heap.size,0,none⟩) 1 1] W λe w'=>∃v,e=.returned (.tuple #[v,.int .i64 0])/\zB W.heap.size W w'/\R v w')):
 zC zF 53 #[St x] w λe w'=>∃v,e=.returned (.tuple #[v,.int .i64 0])/\zB w.heap.size w w'/\R v w':=by
 obtain⟨v1,hv⟩:=zzX (w.alloc (.cells #[St x,.string ⟨#[49]⟩] 69));have a1:qL w v1:=by rw[hv];exact(zM _ w).alloc (zN _) _
 have A1:v1.heap[w.heap.size]? =some (.cells #[St x,.string ⟨#[49]⟩] 69 (0,0)):=by rw[hv];exact zG w _
 have HM:=hid (M.out v1 a1 A1);have HV1:=hid hv.symm;have E1:=hid a1;clear hv a1 A1 M;go_enter Tryz.func53,Tryz.ntmps53;go_wp21;rw[HV1.out];clear HV1;refine HM.out.mono ?_;rintro e w1 ⟨v,rfl,hb1,hr⟩;obtain⟨q,n,c,rfl⟩:=hR.out v w1 hr;have FE:=hid (⟨E1.out.trans (hb1.mono E1.out.size),hr⟩:qL w w1/\R (.slice q n c) w1);clear hb1 hr HM;go_wp21;go_ret2;exact⟨_,rfl,FE.out.1,FE.out.2⟩
theorem z7c (a:Rat) (h:sz a 60) (w:zA) (HW:Hid (∀W,qL w W->Wd W)) (HP:Hid (∀W,qL w W->Pw W)):
 zC zF 53 #[St (numS a)] w λe w'=>∃v,e=.returned (.tuple #[v,.int .i64 0])/\zB w.heap.size w w'/\SdL v (rs a) w':=by
 refine z5u (numS a) (λv W=>SdL v (rs a) W) (hid λv W h=>h.any) w (hid λW hW hx=>?_);have hl:=(Array.getElem?_eq_some_iff.1 hx).1;refine zrs _ a h W (hid λV hV=>HW.out V (hW.trans (hV.mono hW.size))) (hid λV hV=>HP.out V (hW.trans (hV.mono hW.size))) (.inr ⟨w.heap.size,0,1,rfl,zN _,hl,λi t ht=>?_⟩);obtain rfl:i=0:=by have:=(List.getElem?_eq_some_iff.1 ht).1;simpa using this
 obtain rfl:t=(a,1):=by simpa using ht.symm
 exact⟨by rw[zJ hx];rfl,by rw[zJ hx];show _=some (St (zD 1));rw[show zD 1=[49] by rw[zae (by omega)];rfl];rfl⟩
theorem zcl (a b c:List UInt8) (p:Option Addr) (n k:Nat) (w:zA):
 qJ 46 #[.agg #[St a,St b,St c,.slice p n k]] w (.agg #[St a,St b,St c]):=by
 go_enter Tryz.func46,Tryz.ntmps46;go_wp21;exact bodyPost_ret (v:=.agg #[St a,St b,St c]) (by simp[results,Tryz.results46,go_sem]) rfl ⟨rfl,((zM _ w).alloc (zN _) _).alloc (by simp) _⟩
theorem zr2 (q:Rat):numS q≠[]:=by
 intro h;have h1:(itoa q.num).length<=(numS q).length:=by unfold numS;simp
 have h2:itoa q.num≠[]:=by
  rcases zbg q.num with⟨_,e⟩|⟨_,e⟩
  ·rw[e];exact zci _
  ·rw[e];simp
 rw[h] at h1;exact h2 (List.length_eq_zero_iff.1 (by simpa using h1))
theorem SdL.other {v:Value} {l:List (Rat×Nat)} {W W':zA} {k:Nat} (h:SdL v l W) (hk:∀b,b≠k->W'.heap[b]? =W.heap[b]?) (hs:W.heap.size<=W'.heap.size) (hz:∀i q,W.cell? ⟨k,i,none⟩≠some (St (numS q))):SdL v l W':=by
 rcases h with h|⟨b,off,cap,e,hc,hl,hx⟩
 ·exact .inl h
 ·refine .inr ⟨b,off,cap,e,hc,by omega,λi t ht=>?_⟩
  obtain⟨c0,c1⟩:=hx i t ht;have hb:b≠k:=λe=>by subst e;exact hz _ _ c0
  have hh:∀o,W'.cell? ⟨b,o,none⟩=W.cell? ⟨b,o,none⟩:=λo=>by unfold World.cell?;rw[show((⟨b,o,none⟩:Addr).block)=b from rfl,hk b hb]
  exact⟨by rw[hh];exact c0,by rw[hh];exact c1⟩
def zc1:Array Value:= #[St [],St [],St [],.slice none 0 0]
theorem zk8 {W:zA} {k:Nat} (h:W.heap[k]? =some (.cells zc1 26 (0,0))):∀i q,W.cell? ⟨k,i,none⟩≠some (St (numS q)):=λi q e=>by
 rw[zJ h] at e;have hne:=zr2 q;have bad:∀x:List UInt8,St []=St x->x=[]:=λx hx=>by
  have:=congrArg (λv=>match v with| .string s=>s.data.toList|_=>[]) hx;simpa using this.symm
 match i,e with
 |0,e=>exact hne (bad _ (Option.some.inj e))
 |1,e=>exact hne (bad _ (Option.some.inj e))
 |2,e=>exact hne (bad _ (Option.some.inj e))
 |3,e=>cases Option.some.inj e
 |i+4,e=>simp[zc1] at e
section
variable {w W W':zA} {o:Nat} {a b c a' b' c':List UInt8} {d d':Value} {l:List (Rat×Nat)} {f g:Nat->Bool}
end
theorem zn4 (a b c:List UInt8) (p:Option Addr) (n k:Nat) (l:List (Rat×Nat)) (w:zA) (hs:SdL (.slice p n k) l w):
 zC zF 130 #[.agg #[St a,St b,St c,.slice p n k]] w λe w'=>e=.returned (.tuple #[.agg #[St a,St b,St c,.slice p n k],.int .i64 0])/\zB w.heap.size w w'/\SdL (.slice p n k) l w':=by
 go_enter Tryz.func130,Tryz.ntmps130;go_wp21;have hB:∀cs:Array Value,qL w ((w.alloc (.cells #[St a,St b,St c,.slice p n k] 26)).alloc (.cells cs 26)):=λcs=>((zM _ w).alloc (zN _) _).alloc (by simp) _;exact bodyPost_ret (v:=.tuple #[.agg #[St a,St b,St c,.slice p n k],.int .i64 0]) (by simp[results,Tryz.results130,go_sem]) rfl ⟨rfl,hB _,hs.below (hB _)⟩
theorem zgj (b:Bool) (w:zA):zC zF 78 #[.bool b] w λe w'=>e=.returned (.func (.func (if b=true then 130 else 131)) #[] #[])/\w'=w:=by
 cases b
 ·go_enter Tryz.func78,Tryz.ntmps78
  go_wp21;go_ret;exact⟨rfl,rfl⟩
 ·go_enter Tryz.func78,Tryz.ntmps78
  go_wp21;go_ret;exact⟨rfl,rfl⟩
structure OfS (w:zA) (a b c:List UInt8) (v:Value) (l:List (Rat×Nat)) (a2 b2 c2:List UInt8) (l2:List (Rat×Nat)) (d:Value) (f:Nat->Bool) (W:zA):Prop where
 bel:qL w W
 h0:W.heap[w.heap.size]? =some (.cells #[St a,St b,St c] 67 (0,0))
 h2:f 14=false->W.heap[w.heap.size+1]? =some (.cells zc1 26 (0,0))
 h3:f 14=true->W.heap[w.heap.size+1]? =some (.cells #[St a2,St b2,St c2,d] 26 (0,0))
 sv:SdL v l W
 sd:f 11=true->SdL d l2 W
section
variable {w W W':zA} {a b c a2 b2 c2:List UInt8} {v d:Value} {l l2:List (Rat×Nat)} {f g:Nat->Bool}
theorem OfS.congr (h:OfS w a b c v l a2 b2 c2 l2 d f W) (e1:g 11=f 11) (e:g 14=f 14):OfS w a b c v l a2 b2 c2 l2 d g W:=⟨h.bel,h.h0,by rw[e];exact h.h2,by rw[e];exact h.h3,h.sv,by rw[e1];exact h.sd⟩
theorem OfS.next (h:OfS w a b c v l a2 b2 c2 l2 d f W) (hb:qL W W'):OfS w a b c v l a2 b2 c2 l2 d f W':=
 have hc:=zac hb
 ⟨h.bel.trans (hb.mono h.bel.size),hc _ _ _ _ h.h0,λe=>hc _ _ _ _ (h.h2 e),λe=>hc _ _ _ _ (h.h3 e),h.sv.below hb,λe=>(h.sd e).below hb⟩
theorem OfS.cells (h:OfS w a b c v l a2 b2 c2 l2 d f W):W.cell? ⟨w.heap.size,0,none⟩=some (St a)/\W.cell? ⟨w.heap.size,1,none⟩=some (St b)/\W.cell? ⟨w.heap.size,2,none⟩=some (St c):=
 ⟨by rw[zJ h.h0];rfl,by rw[zJ h.h0];rfl,by rw[zJ h.h0];rfl⟩
theorem OfS.soft (h:OfS w a b c v l a2 b2 c2 l2 d f W) (e:f 14=false):W.frozen? ⟨w.heap.size+1,0,none⟩=false/\W.frozen? ⟨w.heap.size+1,1,none⟩=false/\W.frozen? ⟨w.heap.size+1,2,none⟩=false/\W.frozen? ⟨w.heap.size+1,3,none⟩=false:=
 ⟨Go.Joins.unfrozen_of_block (h.h2 e) 0,Go.Joins.unfrozen_of_block (h.h2 e) 1,Go.Joins.unfrozen_of_block (h.h2 e) 2,Go.Joins.unfrozen_of_block (h.h2 e) 3⟩
theorem OfS.old (h:OfS w a b c v l a2 b2 c2 l2 d f W) (e:f 14=false):W.cell? ⟨w.heap.size+1,0,none⟩=some (St [])/\W.cell? ⟨w.heap.size+1,1,none⟩=some (St [])/\W.cell? ⟨w.heap.size+1,2,none⟩=some (St [])/\W.cell? ⟨w.heap.size+1,3,none⟩=some (.slice none 0 0):=
 ⟨by rw[zJ (h.h2 e)];rfl,by rw[zJ (h.h2 e)];rfl,by rw[zJ (h.h2 e)];rfl,by rw[zJ (h.h2 e)];rfl⟩
theorem OfS.new (h:OfS w a b c v l a2 b2 c2 l2 d f W) (e:f 14=true):W.cell? ⟨w.heap.size+1,0,none⟩=some (St a2)/\W.cell? ⟨w.heap.size+1,1,none⟩=some (St b2)/\W.cell? ⟨w.heap.size+1,2,none⟩=some (St c2)/\W.cell? ⟨w.heap.size+1,3,none⟩=some d:=
 ⟨by rw[zJ (h.h3 e)];rfl,by rw[zJ (h.h3 e)];rfl,by rw[zJ (h.h3 e)];rfl,by rw[zJ (h.h3 e)];rfl⟩
theorem OfS.res (h:OfS w a b c v l a2 b2 c2 l2 d f W) (hb:qL W W') {u:Value} (hu:SdL u l2 W') (e14:f 14=false) (g14:g 14=f 14):OfS w a b c v l a2 b2 c2 l2 u g W':=
 have hn:=h.next hb
 ⟨hn.bel,hn.h0,by rw[g14];exact hn.h2,λk=>(by rw[g14,e14] at k;cases k),hn.sv,λ_=>hu⟩
theorem OfS.put (h:OfS w a b c v l a2 b2 c2 l2 d f W) (e:f 14=false):OfS w a b c v l a2 b2 c2 l2 d (λj=>if 14=j then true else f j) ((((W.setCell ⟨w.heap.size+1,0,none⟩ (St a2)).setCell ⟨w.heap.size+1,1,none⟩ (St b2)).setCell ⟨w.heap.size+1,2,none⟩ (St c2)).setCell ⟨w.heap.size+1,3,none⟩ d):=by
 have ne:∀{k:Nat},k≠w.heap.size+1->((((W.setCell ⟨w.heap.size+1,0,none⟩ (St a2)).setCell ⟨w.heap.size+1,1,none⟩ (St b2)).setCell ⟨w.heap.size+1,2,none⟩ (St c2)).setCell ⟨w.heap.size+1,3,none⟩ d).heap[k]? =W.heap[k]? :=λ{k} hk=>by
  rw[yE _ _ _ _ (by exact hk),yE _ _ _ _ (by exact hk),yE _ _ _ _ (by exact hk),yE _ _ _ _ (by exact hk)]
 have hz:=zk8 (h.h2 e);refine⟨(((h.bel.setCell (p:=⟨w.heap.size+1,0,none⟩) (by show _<=w.heap.size+1;omega) _).setCell (p:=⟨w.heap.size+1,1,none⟩) (by show _<=w.heap.size+1;omega) _).setCell (p:=⟨w.heap.size+1,2,none⟩) (by show _<=w.heap.size+1;omega) _).setCell (p:=⟨w.heap.size+1,3,none⟩) (by show _<=w.heap.size+1;omega) _,?_,λk=>(by simp at k),λ_=>?_,h.sv.other (λb hb=>ne hb) (by simp[World.setCell]) hz,λk=>(h.sd (by simpa using k)).other (λb hb=>ne hb) (by simp[World.setCell]) hz⟩
 ·rw[ne (by omega)];exact h.h0
 ·exact zK (i:=3) (zK (i:=2) (zK (i:=1) (zK (i:=0) (h.h2 e) (St a2)) (St b2)) (St c2)) d
end
theorem zlt (a b c a1 b1 a2 b2 c2:List UInt8) (ab:Bool) (g:FuncId) (l l2:List (Rat×Nat)) (w:zA) (HW:Hid (∀W,qL w W->Wd W))
 (FI:Hid (∀W:zA,qL w W->∀A,W.heap[A]? =some (.cells #[St a,St b,St c] 22 (0,0))->qJ 77 #[.slice (some ⟨A,0,none⟩) 3 3] W (.int .i64 0)))
 (NU:Hid (∀W:zA,qL w W->zC zF 53 #[St c] W λe w'=>∃v,e=.returned (.tuple #[v,.int .i64 0])/\zB W.heap.size W w'/\SdL v l w'))
 (CH:Hid (∀W:zA,zC zF 78 #[.bool (!ab)] W λe w'=>e=.returned (.func (.func g) #[] #[])/\w'=W))
 (O1:Hid (qK 79 #[St a] (St a1)))
 (O2:Hid (qK 79 #[St b] (St b1)))
 (GO:Hid (∀(W:zA) (p:Option Addr) (n k:Nat),qL w W->SdL (.slice p n k) l W->zC zF g #[.agg #[St a1,St b1,.string ⟨#[49]⟩,.slice p n k]] W λe w'=>∃v,e=.returned (.tuple #[.agg #[St a2,St b2,St c2,v],.int .i64 0])/\zB W.heap.size W w'/\SdL v l2 w')) (eg:∀args w,(callFunc g args).run zF w=.ok (.enter g args) w):
 zC zF 27 #[.agg #[St a,St b,St c],.bool ab] w λe w'=>∃v,e=.returned (.tuple #[.agg #[St a2,St b2,St c2,v],.int .i64 0])/\zB w.heap.size w w'/\SdL v l2 w':=by
 obtain⟨v1,hv⟩:=zzX ((w.alloc (.cells #[St a,St b,St c] 67)).alloc (.cells zc1 26));have b1':qL w v1:=by rw[hv];exact((zM _ w).alloc (zN _) _).alloc (by simp) _
 have A1:v1.heap[w.heap.size]? =some (.cells #[St a,St b,St c] 67 (0,0)):=by rw[hv];exact(Below.heap_alloc _ _ _ (by simp)).trans (zG w _)
 have A2:v1.heap[w.heap.size+1]? =some (.cells zc1 26 (0,0)):=by
  rw[hv];have:=zG (w.alloc (.cells #[St a,St b,St c] 67)) (.cells zc1 26);rw[zH] at this;exact this
 have q0:v1.cell? ⟨w.heap.size,0,none⟩=some (St a):=by rw[zJ A1];rfl
 have q1:v1.cell? ⟨w.heap.size,1,none⟩=some (St b):=by rw[zJ A1];rfl
 have q2:v1.cell? ⟨w.heap.size,2,none⟩=some (St c):=by rw[zJ A1];rfl
 obtain⟨v2,hv2⟩:=zzX (v1.alloc (.cells #[St a,St b,St c] 22));have b2':qL v1 v2:=by rw[hv2];exact(zM _ v1).alloc (zN _) _
 have A3:v2.heap[v1.heap.size]? =some (.cells #[St a,St b,St c] 22 (0,0)):=by rw[hv2];exact zG v1 _
 have hb:=b1'.trans (b2'.mono b1'.size);have hsz:v1.heap.size=w.heap.size+1+1:=by rw[hv];simp
 rw[hsz] at A3;have HF:=hid (FI.out v2 hb _ A3);have B2:=hid hb;have P1:=hid (zac b2' _ _ _ _ A1);have P2:=hid (zac b2' _ _ _ _ A2);have HV:=hid hv.symm;have HV2:=hid hv2.symm;have EG:=hid eg;clear hv hv2 b1' b2' A1 A2 A3 hb FI eg hsz;go_enter Tryz.func27,Tryz.ntmps27;go_wp21;have h9:=HV.out;rw[show(w.alloc (.cells #[.string ⟨a.toArray⟩,.string ⟨b.toArray⟩,.string ⟨c.toArray⟩] 67)).alloc (.cells #[.string ⟨#[]⟩,.string ⟨#[]⟩,.string ⟨#[]⟩,.slice none 0 0] 26)=v1 from h9];clear h9 HV;go_wp21;have h9:=HV2.out;rw[show v1.alloc (.cells #[.string ⟨a.toArray⟩,.string ⟨b.toArray⟩,.string ⟨c.toArray⟩] 22)=v2 from h9];clear h9 HV2 q0 q1 q2;refine zzM HF.out λw1 hb1=>?_;have hb:=B2.out.trans (hb1.mono B2.out.size);have B3:=hid hb;have P3:=hid (zac hb1 _ _ _ _ P1.out);have P4:=hid (zac hb1 _ _ _ _ P2.out);have HN:=hid (NU.out w1 hb);clear hb hb1 B2 P1 P2 HF NU;have q2:w1.cell? ⟨w.heap.size,2,none⟩=some (St c):=by rw[zJ P3.out];rfl
 go_wp21;refine HN.out.mono ?_;rintro e w2 ⟨v,rfl,hb2,hs⟩;obtain⟨p,n,k,rfl⟩:=hs.any;have HS:=hid (⟨B3.out.trans (hb2.mono B3.out.size),zac hb2 _ _ _ _ P3.out,λ_=>zac hb2 _ _ _ _ P4.out,λk=>(by cases k),hs,λk=>(by cases k)⟩:OfS w a b c (.slice p n k) l a2 b2 c2 l2 (.slice none 0 0) (λ_=>false) w2);clear hb2 hs q2 HN B3 P3 P4;go_wp21;refine zc4 (λ(g3:Option Addr×Nat×Nat) i=>([.bool ab,.bool (!ab),.func (.func g) #[] #[],.pointer (some ⟨w.heap.size,0,none⟩),St a,St a1,.pointer (some ⟨w.heap.size,1,none⟩),St b,St b1,.slice p n k,.agg #[St a1,St b1,.string ⟨#[49]⟩,.slice p n k],.tuple #[.agg #[St a2,St b2,St c2,.slice g3.1 g3.2.1 g3.2.2],.int .i64 0],.agg #[St a2,St b2,St c2,.slice g3.1 g3.2.1 g3.2.2],.int .i64 0,undef,.int .i64 0]:List Value).getD i undef) (λg3=>OfS w a b c (.slice p n k) l a2 b2 c2 l2 (.slice g3.1 g3.2.1 g3.2.2)) (by kernel_rfl) (by kernel_rfl) (none,0,0) (HS.out.next (zM _ _).drew) λg3=>?_;refine qB (.bool ab) (λf W' h=>h.congr rfl rfl) ?_;refine qB (.bool (!ab)) (λf W' h=>h.congr rfl rfl) ?_;simp only[zzQ]
 refine zbv (.func (.func g) #[] #[]) (by rfl) (by rfl) (λf W' hf h C' hC'=>by
  go_simp;refine(CH.out _).mono ?_;rintro e w' ⟨rfl,rfl⟩;exact⟨_,rfl,hC' _ (h.congr rfl rfl)⟩) ?_
 refine qB (.pointer (some ⟨w.heap.size,0,none⟩)) (λf W' h=>h.congr rfl rfl) ?_;refine qB (St a) (λf W' h=>h.congr rfl rfl) ?_ (hy:=λf W' hf h=>by obtain⟨q0,q1,q2⟩:=h.cells;go_simp);simp only[zzQ]
 refine zbv (St a1) (by rfl) (by rfl) (λf W' hf h C' hC'=>by
  go_simp;refine zzM (O1.out _ (HW.out _ h.bel)) λw' hb=>?_;exact⟨_,rfl,hC' _ ((h.next hb).congr rfl rfl)⟩) ?_
 refine qB (.pointer (some ⟨w.heap.size,1,none⟩)) (λf W' h=>h.congr rfl rfl) ?_;refine qB (St b) (λf W' h=>h.congr rfl rfl) ?_ (hy:=λf W' hf h=>by obtain⟨q0,q1,q2⟩:=h.cells;go_simp);simp only[zzQ]
 refine zbv (St b1) (by rfl) (by rfl) (λf W' hf h C' hC'=>by
  go_simp;refine zzM (O2.out _ (HW.out _ h.bel)) λw' hb=>?_;exact⟨_,rfl,hC' _ ((h.next hb).congr rfl rfl)⟩) ?_
 refine qB (.slice p n k) (λf W' h=>h.congr rfl rfl) ?_;refine qB (.agg #[St a1,St b1,.string ⟨#[49]⟩,.slice p n k]) (λf W' h=>h.congr rfl rfl) ?_;simp only[zzQ]
 refine zdc (.tuple #[.agg #[St a2,St b2,St c2,.slice g3.1 g3.2.1 g3.2.2],.int .i64 0]) (by rfl) (by rfl) (λf W' hf h C' hC'=>by
  have h11:=hf.self;have h12:=hf.no (j:=12) hf.self (by kernel_rfl);have h14:=hf.no (j:=14) h12 (by kernel_rfl);have hg:=GO.out W' p n k h.bel h.sv;have heg:=EG.out;go_simp;refine hg.mono ?_;rintro e w' ⟨u0,rfl,hb,hu⟩;obtain⟨u1,u2,u3,rfl⟩:=hu.any;have hj:∀j,f j=true->(([.bool ab,.bool (!ab),.func (.func g) #[] #[],.pointer (some ⟨w.heap.size,0,none⟩),St a,St a1,.pointer (some ⟨w.heap.size,1,none⟩),St b,St b1,.slice p n k,.agg #[St a1,St b1,.string ⟨#[49]⟩,.slice p n k],.tuple #[.agg #[St a2,St b2,St c2,.slice u1 u2 u3],.int .i64 0],.agg #[St a2,St b2,St c2,.slice u1 u2 u3],.int .i64 0,undef,.int .i64 0]:List Value).getD j undef)=(([.bool ab,.bool (!ab),.func (.func g) #[] #[],.pointer (some ⟨w.heap.size,0,none⟩),St a,St a1,.pointer (some ⟨w.heap.size,1,none⟩),St b,St b1,.slice p n k,.agg #[St a1,St b1,.string ⟨#[49]⟩,.slice p n k],.tuple #[.agg #[St a2,St b2,St c2,.slice g3.1 g3.2.1 g3.2.2],.int .i64 0],.agg #[St a2,St b2,St c2,.slice g3.1 g3.2.1 g3.2.2],.int .i64 0,undef,.int .i64 0]:List Value).getD j undef):=by
   intro j hj
   match j,hj with
   |0,_|1,_|2,_|3,_|4,_|5,_|6,_|7,_|8,_|9,_|10,_|13,_|14,_|15,_=>rfl
   |11,hj=>rw[h11] at hj;cases hj
   |12,hj=>rw[h12] at hj;cases hj
   |_+16,_=>rfl
  exact⟨_,rfl,hC' (u1,u2,u3) _ hj (h.res hb hu h14 rfl)⟩) ?_
 refine qB (.agg #[St a2,St b2,St c2,.slice g3.1 g3.2.1 g3.2.2]) (λf W' h=>h.congr rfl rfl) ?_;refine qB (.int .i64 0) (λf W' h=>h.congr rfl rfl) ?_;simp only[zzQ]
 refine zbv undef (by rfl) (by rfl) (λf W' hf h C' hC'=>by
  have h14:=hf.self;have h11:=hf.done 11 (by kernel_rfl);obtain⟨d0,d1,d2,d3⟩:=h.old h14;obtain⟨f0,f1,f2,f3⟩:=h.soft h14;have:=hC' _ (h.put h14);go_simp;exact this) ?_
 try simp only[Act.put]
 refine qB (.int .i64 0) (λf W' h=>h.congr rfl rfl) ?_;simp only[zzQ];refine ze1 λf X hf h=>?_;obtain⟨c0,c1,c2',c3⟩:=h.new (hf 14 (by decide));have hF:=hid (⟨h.bel,h.sd (hf 11 (by decide))⟩:_/\_);clear h hf HS;go_wp21;exact bodyPost_ret (v:=.tuple #[.agg #[St a2,St b2,St c2,.slice g3.1 g3.2.1 g3.2.2],.int .i64 0]) (by simp[results,Tryz.results27,go_sem,c0,c1,c2',c3]) rfl ⟨_,rfl,hF.out.1,hF.out.2⟩
theorem zbc {W:zA} {k:Nat} {p0 p1 p2:Value} {t:TypeId} (h:W.heap[k]? =some (.cells #[p0,p1,p2] t (0,0))) (h0:∃q n c,p0=.slice q n c) (h1:∃q n c,p1=.slice q n c) (h2:∃q n c,p2=.slice q n c):∀i q,W.cell? ⟨k,i,none⟩≠some (St (numS q)):=λi q e=>by
 rw[zJ h] at e;obtain⟨_,_,_,rfl⟩:=h0;obtain⟨_,_,_,rfl⟩:=h1;obtain⟨_,_,_,rfl⟩:=h2
 match i,e with
 |0,e=>cases Option.some.inj e
 |1,e=>cases Option.some.inj e
 |2,e=>cases Option.some.inj e
 |i+3,e=>simp at e
structure ScS (w:zA) (s0 s1 s2:Value) (x0 x1 x2:List UInt8) (p0 p1 p2:Value) (W:zA):Prop where
 bel:qL w W
 h0:W.heap[w.heap.size]? =some (.cells #[s0,s1,s2] 103 (0,0))
 h2:W.heap[w.heap.size+1+1]? =some (.cells #[p0,p1,p2] 103 (0,0))
 h3:W.heap[w.heap.size+1+1+1]? =some (.cells #[St x0,St x1,St x2] 22 (0,0))
section
variable {w W W':zA} {s0 s1 s2 p0 p1 p2:Value} {x0 x1 x2:List UInt8}
theorem ScS.next (h:ScS w s0 s1 s2 x0 x1 x2 p0 p1 p2 W) (hb:qL W W'):ScS w s0 s1 s2 x0 x1 x2 p0 p1 p2 W':=
 have hc:=zac hb
 ⟨h.bel.trans (hb.mono h.bel.size),hc _ _ _ _ h.h0,hc _ _ _ _ h.h2,hc _ _ _ _ h.h3⟩
theorem ScS.cells (h:ScS w s0 s1 s2 x0 x1 x2 p0 p1 p2 W):W.cell? ⟨w.heap.size,0,none⟩=some s0/\W.cell? ⟨w.heap.size,1,none⟩=some s1/\W.cell? ⟨w.heap.size,2,none⟩=some s2/\
 W.cell? ⟨w.heap.size+1+1,0,none⟩=some p0/\W.cell? ⟨w.heap.size+1+1,1,none⟩=some p1/\W.cell? ⟨w.heap.size+1+1,2,none⟩=some p2/\
 W.cell? ⟨w.heap.size+1+1+1,0,none⟩=some (St x0)/\W.cell? ⟨w.heap.size+1+1+1,1,none⟩=some (St x1)/\W.cell? ⟨w.heap.size+1+1+1,2,none⟩=some (St x2):=
 ⟨by rw[zJ h.h0];rfl,by rw[zJ h.h0];rfl,by rw[zJ h.h0];rfl,by rw[zJ h.h2];rfl,by rw[zJ h.h2];rfl,by rw[zJ h.h2];rfl,by rw[zJ h.h3];rfl,by rw[zJ h.h3];rfl,by rw[zJ h.h3];rfl⟩
theorem ScS.soft (h:ScS w s0 s1 s2 x0 x1 x2 p0 p1 p2 W) (i:Nat):W.frozen? ⟨w.heap.size+1+1,i,none⟩=false:=Go.Joins.unfrozen_of_block h.h2 i
theorem ScS.ne (h:ScS w s0 s1 s2 x0 x1 x2 p0 p1 p2 W) (i:Nat) (u:Value):qL w (W.setCell ⟨w.heap.size+1+1,i,none⟩ u)/\(∀b,b≠w.heap.size+1+1->(W.setCell ⟨w.heap.size+1+1,i,none⟩ u).heap[b]? =W.heap[b]?)/\W.heap.size<=(W.setCell ⟨w.heap.size+1+1,i,none⟩ u).heap.size:=
 ⟨h.bel.setCell (p:=⟨w.heap.size+1+1,i,none⟩) (by show _<=w.heap.size+1+1;omega) _,λb hb=>yE _ _ _ _ (by exact hb),by simp[World.setCell]⟩
theorem ScS.put0 (h:ScS w s0 s1 s2 x0 x1 x2 p0 p1 p2 W) (u:Value):ScS w s0 s1 s2 x0 x1 x2 u p1 p2 (W.setCell ⟨w.heap.size+1+1,0,none⟩ u):=by
 obtain⟨h1,h2,_⟩:=h.ne 0 u;exact⟨h1,(h2 _ (by omega)).trans h.h0,zK (i:=0) h.h2 u,(h2 _ (by omega)).trans h.h3⟩
theorem ScS.put1 (h:ScS w s0 s1 s2 x0 x1 x2 p0 p1 p2 W) (u:Value):ScS w s0 s1 s2 x0 x1 x2 p0 u p2 (W.setCell ⟨w.heap.size+1+1,1,none⟩ u):=by
 obtain⟨h1,h2,_⟩:=h.ne 1 u;exact⟨h1,(h2 _ (by omega)).trans h.h0,zK (i:=1) h.h2 u,(h2 _ (by omega)).trans h.h3⟩
theorem ScS.put2 (h:ScS w s0 s1 s2 x0 x1 x2 p0 p1 p2 W) (u:Value):ScS w s0 s1 s2 x0 x1 x2 p0 p1 u (W.setCell ⟨w.heap.size+1+1,2,none⟩ u):=by
 obtain⟨h1,h2,_⟩:=h.ne 2 u;exact⟨h1,(h2 _ (by omega)).trans h.h0,zK (i:=2) h.h2 u,(h2 _ (by omega)).trans h.h3⟩
end
theorem z0p (q0 q1 q2:Option Addr) (n0 n1 n2 k0 k1 k2:Nat) (x0 x1 x2:List UInt8) (L0 L1 L2 M1 M2:List (Rat×Nat)) (Ea Eb Ec E1 E2 F:Prop) (w:zA)
 (S0:Hid (∀W:zA,qL w W->zC zF 11 #[.slice q0 n0 k0,St x0] W λe w'=>∃q n c r,e=.returned (.tuple #[.slice q n c,.int .i64 r])/\zB W.heap.size W w'/\OutR L0 Ea F (.slice q n c) r w'))
 (S1:Hid (∀W:zA,qL w W->zC zF 11 #[.slice q1 n1 k1,St x1] W λe w'=>∃q n c r,e=.returned (.tuple #[.slice q n c,.int .i64 r])/\zB W.heap.size W w'/\OutR L1 Eb F (.slice q n c) r w'))
 (S2:Hid (∀W:zA,qL w W->zC zF 11 #[.slice q2 n2 k2,St x2] W λe w'=>∃q n c r,e=.returned (.tuple #[.slice q n c,.int .i64 r])/\zB W.heap.size W w'/\OutR L2 Ec F (.slice q n c) r w'))
 (A1:Hid (∀(W:zA) (u v:Value),Ea->Eb->qL w W->SdL u L0 W->SdL v L1 W->zC zF 17 #[u,v] W λe w'=>∃q n c r,e=.returned (.tuple #[.slice q n c,.int .i64 r])/\zB W.heap.size W w'/\OutR M1 E1 F (.slice q n c) r w'))
 (A2:Hid (∀(W:zA) (u v:Value),Ea->Eb->E1->Ec->qL w W->SdL u M1 W->SdL v L2 W->zC zF 17 #[u,v] W λe w'=>∃q n c r,e=.returned (.tuple #[.slice q n c,.int .i64 r])/\zB W.heap.size W w'/\OutR M2 E2 F (.slice q n c) r w')):
 zC zF 49 #[.agg #[.slice q0 n0 k0,.slice q1 n1 k1,.slice q2 n2 k2],.agg #[St x0,St x1,St x2]] w λe w'=>∃q n c r,e=.returned (.tuple #[.slice q n c,.int .i64 r])/\zB w.heap.size w w'/\OutR M2 (Ea/\Eb/\Ec/\E1/\E2) F (.slice q n c) r w':=by
 obtain⟨v1,hv⟩:=zzX (((w.alloc (.cells #[.slice q0 n0 k0,.slice q1 n1 k1,.slice q2 n2 k2] 103)).alloc (.cells #[St x0,St x1,St x2] 45)).alloc (.cells #[.slice none 0 0,.slice none 0 0,.slice none 0 0] 103));have hb1:qL w v1:=by rw[hv];exact(((zM _ w).alloc (zN _) _).alloc (by simp) _).alloc (by simp;omega) _
 have e1:v1.heap[w.heap.size]? =some (.cells #[.slice q0 n0 k0,.slice q1 n1 k1,.slice q2 n2 k2] 103 (0,0)):=by
  rw[hv];exact(Below.heap_alloc _ _ _ (by simp;omega)).trans ((Below.heap_alloc _ _ _ (by simp)).trans (zG w _))
 have e2:v1.heap[w.heap.size+1]? =some (.cells #[St x0,St x1,St x2] 45 (0,0)):=by
  rw[hv];have:=zG (w.alloc (.cells #[.slice q0 n0 k0,.slice q1 n1 k1,.slice q2 n2 k2] 103)) (.cells #[St x0,St x1,St x2] 45);rw[zH] at this;exact(Below.heap_alloc _ _ _ (by simp)).trans this
 have e3:v1.heap[w.heap.size+1+1]? =some (.cells #[.slice none 0 0,.slice none 0 0,.slice none 0 0] 103 (0,0)):=by
  rw[hv];have:=zG ((w.alloc (.cells #[.slice q0 n0 k0,.slice q1 n1 k1,.slice q2 n2 k2] 103)).alloc (.cells #[St x0,St x1,St x2] 45)) (.cells #[.slice none 0 0,.slice none 0 0,.slice none 0 0] 103);rw[zH,zH] at this;exact this
 have hsz:v1.heap.size=w.heap.size+1+1+1:=by rw[hv];simp
 have y0:v1.cell? ⟨w.heap.size+1,0,none⟩=some (St x0):=by rw[zJ e2];rfl
 have y1:v1.cell? ⟨w.heap.size+1,1,none⟩=some (St x1):=by rw[zJ e2];rfl
 have y2:v1.cell? ⟨w.heap.size+1,2,none⟩=some (St x2):=by rw[zJ e2];rfl
 obtain⟨v2,hv2⟩:=zzX (v1.alloc (.cells #[St x0,St x1,St x2] 22));have b2:qL v1 v2:=by rw[hv2];exact(zM _ v1).alloc (zN _) _
 have HS0:Hid (ScS w (.slice q0 n0 k0) (.slice q1 n1 k1) (.slice q2 n2 k2) x0 x1 x2 (.slice none 0 0) (.slice none 0 0) (.slice none 0 0) v2):=hid
  ⟨hb1.trans (b2.mono hb1.size),zac b2 _ _ _ _ e1,zac b2 _ _ _ _ e3,by rw[hv2,<-hsz];exact zG v1 _⟩
 have HV:=hid hv.symm;have HV2:=hid hv2.symm;have HSZ:=hid hsz;clear hv hv2 hb1 b2 e1 e2 e3 hsz;go_enter Tryz.func49,Tryz.ntmps49;go_wp21;have h9:=HV.out;rw[show((w.alloc (.cells #[.slice q0 n0 k0,.slice q1 n1 k1,.slice q2 n2 k2] 103)).alloc (.cells #[.string ⟨x0.toArray⟩,.string ⟨x1.toArray⟩,.string ⟨x2.toArray⟩] 45)).alloc (.cells #[.slice none 0 0,.slice none 0 0,.slice none 0 0] 103)=v1 from h9];clear h9 HV;go_wp21;have h9:=HV2.out;rw[show v1.alloc (.cells #[.string ⟨x0.toArray⟩,.string ⟨x1.toArray⟩,.string ⟨x2.toArray⟩] 22)=v2 from h9]
 try rw[HSZ.out]
 clear h9 HV2 HSZ y0 y1 y2;refine wp_loop_rounds 4 ?_;rw[rounds_succ];obtain⟨c0,c1,c2,d0,d1,d2,z0,z1,z2⟩:=HS0.out.cells;have fz:=HS0.out.soft 0;have HC:=hid (S0.out v2 HS0.out.bel);go_wp21;clear c0 c1 c2 d0 d1 d2 z0 z1 z2 fz;refine HC.out.mono ?_;rintro e r0 ⟨a0,m0,j0,er,rfl,hb,hu⟩;have HR0:=hid (HS0.out.next hb);rcases hu with⟨rfl,hu,hE⟩|⟨rfl,hu,hF⟩
 rotate_left
 ·injection hu with e1 e2 e3
  subst e1;subst e2;subst e3;have HF:=hid hF;clear hb HC hF;go_wp21;go_ret2;exact⟨_,_,_,_,rfl,HR0.out.bel,.inr ⟨rfl,rfl,HF.out⟩⟩
 have HE0:=hid hE;clear hE;have HU0:=hid hu;clear hb hu HC HS0;obtain⟨c0,c1,c2,d0,d1,d2,z0,z1,z2⟩:=HR0.out.cells;have fz:=HR0.out.soft 0;obtain⟨t0,ht0⟩:=zzX (r0.setCell ⟨w.heap.size+1+1,0,none⟩ (.slice a0 m0 j0));have hp:=HR0.out.put0 (.slice a0 m0 j0);obtain⟨-,hne,hsz⟩:=HR0.out.ne 0 (.slice a0 m0 j0);have hno:=zbc HR0.out.h2 ⟨_,_,_,rfl⟩ ⟨_,_,_,rfl⟩ ⟨_,_,_,rfl⟩;rw[<-ht0] at hp hne hsz;have HP0:=hid hp;have HU0:=hid (HU0.out.other hne hsz hno);have HT:=hid ht0.symm;clear hp hne hsz hno ht0;go_wp21
 try rw[HT.out]
 clear HT c0 c1 c2 d0 d1 d2 z0 z1 z2 fz HR0;rw[rounds_succ];obtain⟨c0,c1,c2,d0,d1,d2,z0,z1,z2⟩:=HP0.out.cells;have fz:=HP0.out.soft 1;have HC:=hid (S1.out t0 HP0.out.bel);go_wp21;clear c0 c1 c2 d0 d1 d2 z0 z1 z2 fz;refine HC.out.mono ?_;rintro e r1 ⟨a1,m1,j1,er,rfl,hb,hu⟩;have HR1:=hid (HP0.out.next hb);rcases hu with⟨rfl,hu,hE⟩|⟨rfl,hu,hF⟩
 rotate_left
 ·injection hu with e1 e2 e3
  subst e1;subst e2;subst e3;have HF:=hid hF;clear hb HC hF HU0;go_wp21;go_ret2;exact⟨_,_,_,_,rfl,HR1.out.bel,.inr ⟨rfl,rfl,HF.out⟩⟩
 have HE1:=hid hE;clear hE;have HU1:=hid hu;have HU0:=hid (HU0.out.below hb);clear hb hu HC HP0;obtain⟨c0,c1,c2,d0,d1,d2,z0,z1,z2⟩:=HR1.out.cells;have fz:=HR1.out.soft 1;obtain⟨t1,ht1⟩:=zzX (r1.setCell ⟨w.heap.size+1+1,1,none⟩ (.slice a1 m1 j1));have hp:=HR1.out.put1 (.slice a1 m1 j1);obtain⟨-,hne,hsz⟩:=HR1.out.ne 1 (.slice a1 m1 j1);have hno:=zbc HR1.out.h2 ⟨_,_,_,rfl⟩ ⟨_,_,_,rfl⟩ ⟨_,_,_,rfl⟩;rw[<-ht1] at hp hne hsz;have HP1:=hid hp;have HU1:=hid (HU1.out.other hne hsz hno);have HU0:=hid (HU0.out.other hne hsz hno);have HT:=hid ht1.symm;clear hp hne hsz hno ht1;go_wp21
 try rw[HT.out]
 clear HT c0 c1 c2 d0 d1 d2 z0 z1 z2 fz HR1;rw[rounds_succ];obtain⟨c0,c1,c2,d0,d1,d2,z0,z1,z2⟩:=HP1.out.cells;have fz:=HP1.out.soft 2;have HC:=hid (S2.out t1 HP1.out.bel);go_wp21;clear c0 c1 c2 d0 d1 d2 z0 z1 z2 fz;refine HC.out.mono ?_;rintro e r2 ⟨a2,m2,j2,er,rfl,hb,hu⟩;have HR2:=hid (HP1.out.next hb);rcases hu with⟨rfl,hu,hE⟩|⟨rfl,hu,hF⟩
 rotate_left
 ·injection hu with e1 e2 e3
  subst e1;subst e2;subst e3;have HF:=hid hF;clear hb HC hF HU0 HU1;go_wp21;go_ret2;exact⟨_,_,_,_,rfl,HR2.out.bel,.inr ⟨rfl,rfl,HF.out⟩⟩
 have HE2:=hid hE;clear hE;have HU2:=hid hu;have HU0:=hid (HU0.out.below hb);have HU1:=hid (HU1.out.below hb);clear hb hu HC HP1;obtain⟨c0,c1,c2,d0,d1,d2,z0,z1,z2⟩:=HR2.out.cells;have fz:=HR2.out.soft 2;obtain⟨t2,ht2⟩:=zzX (r2.setCell ⟨w.heap.size+1+1,2,none⟩ (.slice a2 m2 j2));have hp:=HR2.out.put2 (.slice a2 m2 j2);obtain⟨-,hne,hsz⟩:=HR2.out.ne 2 (.slice a2 m2 j2);have hno:=zbc HR2.out.h2 ⟨_,_,_,rfl⟩ ⟨_,_,_,rfl⟩ ⟨_,_,_,rfl⟩;rw[<-ht2] at hp hne hsz;have HP2:=hid hp;have HU2:=hid (HU2.out.other hne hsz hno);have HU0:=hid (HU0.out.other hne hsz hno);have HU1:=hid (HU1.out.other hne hsz hno);have HT:=hid ht2.symm;clear hp hne hsz hno ht2;go_wp21
 try rw[HT.out]
 clear HT c0 c1 c2 d0 d1 d2 z0 z1 z2 fz HR2;rw[rounds_succ];obtain⟨c0,c1,c2,d0,d1,d2,z0,z1,z2⟩:=HP2.out.cells;have HC:=hid (A1.out t2 _ _ HE0.out HE1.out HP2.out.bel HU0.out HU1.out);go_wp21;clear c0 c1 c2 d0 d1 d2 z0 z1 z2;refine HC.out.mono ?_;rintro e r3 ⟨a3,m3,j3,er,rfl,hb,hu⟩;have HP3:=hid (HP2.out.next hb);rcases hu with⟨rfl,hu,hsz⟩|⟨rfl,hu,hF⟩
 ·have HU3:=hid hu
  have HU2:=hid (HU2.out.below hb);have HC:=hid (A2.out r3 _ _ HE0.out HE1.out hsz HE2.out HP3.out.bel HU3.out HU2.out);have HSZ:=hid hsz;clear hb hu HP2 HU0 HU1 A2 hsz;obtain⟨c0,c1,c2,d0,d1,d2,z0,z1,z2⟩:=HP3.out.cells;go_wp21;refine HC.out.mono ?_;rintro e r4 ⟨a4,m4,j4,er,rfl,hb,hu⟩;have HF:=hid (⟨HP3.out.bel.trans (hb.mono HP3.out.bel.size),hu⟩:qL w r4/\OutR M2 E2 F (.slice a4 m4 j4) er r4);clear hb hu HC c0 c1 c2 d0 d1 d2 z0 z1 z2;go_wp21;go_ret2;exact⟨_,_,_,_,rfl,HF.out.1,HF.out.2.imp (λh=>⟨h.1,h.2.1,HE0.out,HE1.out,HE2.out,HSZ.out,h.2.2⟩) id⟩
 ·injection hu with e1 e2 e3
  subst e1;subst e2;subst e3;have HFF:=hid hF;clear hb HC HP2 HU0 HU1 HU2 A2 hF;go_wp21;go_ret2;exact⟨_,_,_,_,rfl,HP3.out.bel,.inr ⟨rfl,rfl,HFF.out⟩⟩
theorem zcq (q0 q1 q2:Option Addr) (n0 n1 n2 k0 k1 k2:Nat) (x0 x1 x2:List UInt8) (L0 L1 L2 M1 M2:List (Rat×Nat)) (w:zA)
 (S0:Hid (∀W:zA,qL w W->zC zF 11 #[.slice q0 n0 k0,St x0] W λe w'=>∃v,e=.returned (.tuple #[v,.int .i64 0])/\zB W.heap.size W w'/\SdL v L0 w'))
 (S1:Hid (∀W:zA,qL w W->zC zF 11 #[.slice q1 n1 k1,St x1] W λe w'=>∃v,e=.returned (.tuple #[v,.int .i64 0])/\zB W.heap.size W w'/\SdL v L1 w'))
 (S2:Hid (∀W:zA,qL w W->zC zF 11 #[.slice q2 n2 k2,St x2] W λe w'=>∃v,e=.returned (.tuple #[v,.int .i64 0])/\zB W.heap.size W w'/\SdL v L2 w'))
 (A1:Hid (∀(W:zA) (u v:Value),qL w W->SdL u L0 W->SdL v L1 W->zC zF 17 #[u,v] W λe w'=>∃r,e=.returned (.tuple #[r,.int .i64 0])/\zB W.heap.size W w'/\SdL r M1 w'))
 (A2:Hid (∀(W:zA) (u v:Value),qL w W->SdL u M1 W->SdL v L2 W->zC zF 17 #[u,v] W λe w'=>∃r,e=.returned (.tuple #[r,.int .i64 0])/\zB W.heap.size W w'/\SdL r M2 w')):
 zC zF 49 #[.agg #[.slice q0 n0 k0,.slice q1 n1 k1,.slice q2 n2 k2],.agg #[St x0,St x1,St x2]] w λe w'=>∃r,e=.returned (.tuple #[r,.int .i64 0])/\zB w.heap.size w w'/\SdL r M2 w':=
 (z0p q0 q1 q2 n0 n1 n2 k0 k1 k2 x0 x1 x2 L0 L1 L2 M1 M2 True True True True True False w (hid λW h=>zce (S0.out W h)) (hid λW h=>zce (S1.out W h)) (hid λW h=>zce (S2.out W h)) (hid λW u v _ _ h1 h2 h3=>zce (A1.out W u v h1 h2 h3)) (hid λW u v _ _ _ _ h1 h2 h3=>zce (A2.out W u v h1 h2 h3))).mono λe w' ⟨q,n,c,r,h1,h2,h3⟩=>by
   rcases h3 with⟨rfl,h3, -⟩|h3
   ·exact⟨_,h1,h2,h3⟩
   ·exact h3.2.2.elim
theorem zda (a b c:List UInt8) (w:zA):
 qJ 110 #[.agg #[St a,St b,St c]] w (.agg #[St a,St b,St c]):=by
 go_enter Tryz.func110,Tryz.ntmps110;go_wp21;exact bodyPost_ret (v:=.agg #[St a,St b,St c]) (by simp[results,Tryz.results110,go_sem]) rfl ⟨rfl,((zM _ w).alloc (zN _) _).alloc (by simp) _⟩
theorem zdr (a b c:List UInt8) (w:zA):(Instr.index 170 (.agg #[St a,St b,St c]) (.int .i64 0)).run zF w=.ok (St a) w/\(Instr.index 170 (.agg #[St a,St b,St c]) (.int .i64 1)).run zF w=.ok (St b) w/\(Instr.index 170 (.agg #[St a,St b,St c]) (.int .i64 2)).run zF w=.ok (St c) w:=
 ⟨by kernel_rfl,by kernel_rfl,by kernel_rfl⟩
theorem zgk (a b c:List UInt8)
 (C0:Hid (qK 41 #[St a] (.int .i64 0)))
 (C1:Hid (qK 41 #[St b] (.int .i64 0)))
 (C2:Hid (qK 41 #[St c] (.int .i64 0)))
 (w:zA) (HW:Hid (Wd w)):
 qJ 52 #[.agg #[St a,St b,St c]] w (.int .i64 0):=by
 have n0:=λw=>(zdr a b c w).1;have n1:=λw=>(zdr a b c w).2.1;have n2:=λw=>(zdr a b c w).2.2;obtain⟨v1,hv⟩:=zzX (w.alloc (.cells #[St a,St b,St c] 45));have a1:qL w v1:=by rw[hv];exact(zM _ w).alloc (zN _) _
 have HV:=hid hv.symm;have E1:=hid a1;clear hv a1;go_enter Tryz.func52,Tryz.ntmps52;go_wp21;have h9:=HV.out;rw[show w.alloc (.cells #[.string ⟨a.toArray⟩,.string ⟨b.toArray⟩,.string ⟨c.toArray⟩] 45)=v1 from h9];clear h9 HV;refine zzM (zda a b c v1) λr0 hb=>?_;have E2:=hid (E1.out.trans (hb.mono E1.out.size));clear hb E1;go_wp21;refine wp_loop_rounds 4 ?_;rw[rounds_succ];go_wp21;refine zzM (C0.out r0 (HW.out.below E2.out)) λr1 hb=>?_;have E3:=hid (E2.out.trans (hb.mono E2.out.size));clear hb E2;go_wp21;rw[rounds_succ];go_wp21;refine zzM (C1.out r1 (HW.out.below E3.out)) λr2 hb=>?_;have E4:=hid (E3.out.trans (hb.mono E3.out.size));clear hb E3;go_wp21;rw[rounds_succ];go_wp21;refine zzM (C2.out r2 (HW.out.below E4.out)) λr3 hb=>?_;have E5:=hid (E4.out.trans (hb.mono E4.out.size));clear hb E4;go_wp21;rw[rounds_succ];go_wp21;go_ret;exact⟨rfl,E5.out⟩
theorem zh5 (a b c:List UInt8) (p:Option Addr) (n k:Nat) (hz:(a==[48])=false\/((a==[48])=true/\(b==[48])=false)\/((a==[48])=true/\(b==[48])=true/\(c==[48])=false)) (w:zA)
 (FI:Hid (∀W:zA,qL w W->∀A,W.heap[A]? =some (.cells #[St a,St b,St c] 22 (0,0))->qJ 77 #[.slice (some ⟨A,0,none⟩) 3 3] W (.int .i64 0)))
 (SC:Hid (∀W:zA,qL w W->qJ 26 #[.slice p n k] W (.int .i64 0))):
 qJ 106 #[.agg #[St a,St b,St c,.slice p n k]] w (.int .i64 0):=by
 obtain⟨v1,hv⟩:=zzX ((w.alloc (.cells #[St a,St b,St c,.slice p n k] 26)).alloc (.cells #[St a,St b,St c] 22));have b1:qL w v1:=by rw[hv];exact((zM _ w).alloc (zN _) _).alloc (by simp) _
 have A1:v1.heap[w.heap.size]? =some (.cells #[St a,St b,St c,.slice p n k] 26 (0,0)):=by rw[hv];exact(Below.heap_alloc _ _ _ (by simp)).trans (zG w _)
 have A2:v1.heap[w.heap.size+1]? =some (.cells #[St a,St b,St c] 22 (0,0)):=by
  rw[hv];have:=zG (w.alloc (.cells #[St a,St b,St c,.slice p n k] 26)) (.cells #[St a,St b,St c] 22);rw[zH] at this;exact this
 have HF:=hid (FI.out v1 b1 _ A2);have B1:=hid b1;have P1:=hid A1;have HV:=hid hv.symm;clear hv b1 A1 A2 FI;go_enter Tryz.func106,Tryz.ntmps106;go_wp21;have h9:=HV.out;rw[show(w.alloc (.cells #[.string ⟨a.toArray⟩,.string ⟨b.toArray⟩,.string ⟨c.toArray⟩,.slice p n k] 26)).alloc (.cells #[.string ⟨a.toArray⟩,.string ⟨b.toArray⟩,.string ⟨c.toArray⟩] 22)=v1 from h9];clear h9 HV;refine zzM HF.out λr1 hb=>?_;have hbb:=B1.out.trans (hb.mono B1.out.size);have B2:=hid hbb;have P2:=hid (zac hb _ _ _ _ P1.out);have HS:=hid (SC.out r1 hbb);clear hb hbb B1 P1 HF SC;have k0:r1.cell? ⟨w.heap.size,0,none⟩=some (St a):=by rw[zJ P2.out];rfl
 have k1:r1.cell? ⟨w.heap.size,1,none⟩=some (St b):=by rw[zJ P2.out];rfl
 have k2:r1.cell? ⟨w.heap.size,2,none⟩=some (St c):=by rw[zJ P2.out];rfl
 have k3:r1.cell? ⟨w.heap.size,3,none⟩=some (.slice p n k):=by rw[zJ P2.out];rfl
 rcases hz with z0|⟨z0,z1⟩|⟨z0,z1,z2⟩
 all_goals
  go_wp21;refine zzM HS.out λr2 hb=>?_;have B3:=hid (B2.out.trans (hb.mono B2.out.size));clear hb;go_wp21;go_ret;exact⟨rfl,B3.out⟩
def RowHf (p:Option Addr) (n:Nat) (X Y Z:Nat->List UInt8) (D:Nat->Value) (W:zA):Prop:=∀i,i<n->∃b off,p=some ⟨b,off,none⟩/\W.cell? ⟨b,off+i*4,none⟩=some (St (X i))/\W.cell? ⟨b,off+i*4+1,none⟩=some (St (Y i))/\W.cell? ⟨b,off+i*4+2,none⟩=some (St (Z i))/\W.cell? ⟨b,off+i*4+3,none⟩=some (D i)
theorem RowHf.keep {p:Option Addr} {n:Nat} {X Y Z:Nat->List UInt8} {D:Nat->Value} {W W':zA} (h:RowHf p n X Y Z D W) (hc:CellsKept W W'):RowHf p n X Y Z D W':=λi hi=>let ⟨b,off,e,h1,h2,h3,h4⟩:=h i hi;⟨b,off,e,hc.cell h1,hc.cell h2,hc.cell h3,hc.cell h4⟩
theorem zef (p:Option Addr) (cap n:Nat) (X Y Z:Nat->List UInt8) (D:Nat->Value) (hn:n<=5000) (hD:∀i,i<n->∃q m c,D i=.slice q m c) (w:zA)
 (CK:Hid (∀i,i<n->∀W:zA,qL w W->qJ 106 #[.agg #[St (X i),St (Y i),St (Z i),D i]] W (.int .i64 0))) (HP:Hid (RowHf p n X Y Z D w)):
 qJ 44 #[.slice p n cap] w (.int .i64 0):=by
 have D0:=hid (zM w.heap.size w);go_enter Tryz.func44,Tryz.ntmps44;go_wp21;go_loopw [7] (λi wr=>∃(k:Nat),k<=n/\i=.int .i64 (k:Int)/\Hid (qL w wr))
  (λi _=>n-(zL i).toNat)
 case atStart=>exact⟨0,Nat.zero_le _,rfl,D0⟩
 case round=>
  clear D0;obtain⟨k,hk,rfl,hB⟩:=hrel;by_cases hlt:k<n
  ·obtain⟨b,off,rfl,c0,c1,c2,c3⟩:=(HP.out.keep (zac hB.out)) k hlt
   have HC:=hid (CK.out k hlt);obtain⟨q,m,c,hd⟩:=hD k hlt;rw[hd] at c3 HC;generalize X k=x at*
   generalize Y k=y at*
   generalize Z k=z at*
   obtain⟨v1,hv⟩:=zzX (wr.alloc (.cells #[St x,St y,St z,.slice q m c] 26));have a1:qL wr v1:=by rw[hv];exact(zM _ wr).alloc (zN _) _
   have hE:=hB.out.trans (a1.mono hB.out.size);have HE:=hid hE;have HK:=hid (HC.out v1 hE);have HV:=hid hv.symm;clear hv a1 hE hd HC;go_wp21;have h9:=HV.out;rw[show wr.alloc (.cells #[.string ⟨x.toArray⟩,.string ⟨y.toArray⟩,.string ⟨z.toArray⟩,.slice q m c] 26)=v1 from h9];clear h9 HV c0 c1 c2 c3;refine zzM HK.out λw2 hb2=>?_;have hB2:=qT HE hb2;clear hb2 HK HE;go_wp21;go_roundw
   case rel=>exact⟨k+1,by omega,by go_num,hB2⟩
   case measure=>simp[zL];omega
  ·go_wp21
   go_ret;exact⟨rfl,hB.out⟩
structure MkS (w:zA) (P:Nat) (x0 x1 x2:List UInt8) (p0 p1 p2:Value) (W:zA):Prop where
 bel:qL w W
 lo:w.heap.size+1<P
 h1:W.heap[w.heap.size+1]? =some (.cells #[.slice none 0 0,.slice none 0 0,.slice none 0 0] 28 (0,0))
 h2:W.heap[P]? =some (.cells #[p0,p1,p2] 103 (0,0))
 h3:W.heap[P+1]? =some (.cells #[St x0,St x1,St x2] 22 (0,0))
section
variable {w W W':zA} {P:Nat} {p0 p1 p2:Value} {x0 x1 x2:List UInt8}
theorem MkS.next (h:MkS w P x0 x1 x2 p0 p1 p2 W) (hb:qL W W'):MkS w P x0 x1 x2 p0 p1 p2 W':=
 have hc:=zac hb
 ⟨h.bel.trans (hb.mono h.bel.size),h.lo,hc _ _ _ _ h.h1,hc _ _ _ _ h.h2,hc _ _ _ _ h.h3⟩
theorem MkS.cells (h:MkS w P x0 x1 x2 p0 p1 p2 W):W.cell? ⟨P,0,none⟩=some p0/\W.cell? ⟨P,1,none⟩=some p1/\W.cell? ⟨P,2,none⟩=some p2/\
 W.cell? ⟨P+1,0,none⟩=some (St x0)/\W.cell? ⟨P+1,1,none⟩=some (St x1)/\W.cell? ⟨P+1,2,none⟩=some (St x2):=
 ⟨by rw[zJ h.h2];rfl,by rw[zJ h.h2];rfl,by rw[zJ h.h2];rfl,by rw[zJ h.h3];rfl,by rw[zJ h.h3];rfl,by rw[zJ h.h3];rfl⟩
theorem MkS.soft (h:MkS w P x0 x1 x2 p0 p1 p2 W) (i:Nat):W.frozen? ⟨P,i,none⟩=false:=Go.Joins.unfrozen_of_block h.h2 i
theorem MkS.ne (h:MkS w P x0 x1 x2 p0 p1 p2 W) (i:Nat) (u:Value):qL w (W.setCell ⟨P,i,none⟩ u)/\(∀b,b≠P->(W.setCell ⟨P,i,none⟩ u).heap[b]? =W.heap[b]?)/\W.heap.size<=(W.setCell ⟨P,i,none⟩ u).heap.size:=
 ⟨h.bel.setCell (p:=⟨P,i,none⟩) (by show _<=P;have:=h.lo;omega) _,λb hb=>yE _ _ _ _ (by exact hb),by simp[World.setCell]⟩
theorem MkS.put0 (h:MkS w P x0 x1 x2 p0 p1 p2 W) (u:Value):MkS w P x0 x1 x2 u p1 p2 (W.setCell ⟨P,0,none⟩ u):=by
 obtain⟨h1,h2,_⟩:=h.ne 0 u;have:=h.lo;exact⟨h1,h.lo,(h2 _ (by omega)).trans h.h1,zK (i:=0) h.h2 u,(h2 _ (by omega)).trans h.h3⟩
theorem MkS.put1 (h:MkS w P x0 x1 x2 p0 p1 p2 W) (u:Value):MkS w P x0 x1 x2 p0 u p2 (W.setCell ⟨P,1,none⟩ u):=by
 obtain⟨h1,h2,_⟩:=h.ne 1 u;have:=h.lo;exact⟨h1,h.lo,(h2 _ (by omega)).trans h.h1,zK (i:=1) h.h2 u,(h2 _ (by omega)).trans h.h3⟩
theorem MkS.put2 (h:MkS w P x0 x1 x2 p0 p1 p2 W) (u:Value):MkS w P x0 x1 x2 p0 p1 u (W.setCell ⟨P,2,none⟩ u):=by
 obtain⟨h1,h2,_⟩:=h.ne 2 u;have:=h.lo;exact⟨h1,h.lo,(h2 _ (by omega)).trans h.h1,zK (i:=2) h.h2 u,(h2 _ (by omega)).trans h.h3⟩
end
theorem z3s (x0 x1 x2:List UInt8) (L0 L1 L2:List (Rat×Nat)) (w:zA)
 (VC:Hid (∀W:zA,qL w W->qJ 52 #[.agg #[St x0,St x1,St x2]] W (.int .i64 0)))
 (N0:Hid (∀W:zA,qL w W->zC zF 53 #[St x0] W λe w'=>∃v,e=.returned (.tuple #[v,.int .i64 0])/\zB W.heap.size W w'/\SdL v L0 w'))
 (N1:Hid (∀W:zA,qL w W->zC zF 53 #[St x1] W λe w'=>∃v,e=.returned (.tuple #[v,.int .i64 0])/\zB W.heap.size W w'/\SdL v L1 w'))
 (N2:Hid (∀W:zA,qL w W->zC zF 53 #[St x2] W λe w'=>∃v,e=.returned (.tuple #[v,.int .i64 0])/\zB W.heap.size W w'/\SdL v L2 w')):
 zC zF 16 #[.agg #[St x0,St x1,St x2]] w λe w'=>∃u0 u1 u2,e=.returned (.tuple #[.agg #[u0,u1,u2],.int .i64 0])/\zB w.heap.size w w'/\SdL u0 L0 w'/\SdL u1 L1 w'/\SdL u2 L2 w':=by
 obtain⟨v1,hv⟩:=zzX ((w.alloc (.cells #[St x0,St x1,St x2] 45)).alloc (.cells #[.slice none 0 0,.slice none 0 0,.slice none 0 0] 28));have b1:qL w v1:=by rw[hv];exact((zM _ w).alloc (zN _) _).alloc (by simp) _
 have A1:v1.heap[w.heap.size]? =some (.cells #[St x0,St x1,St x2] 45 (0,0)):=by rw[hv];exact(Below.heap_alloc _ _ _ (by simp)).trans (zG w _)
 have A2:v1.heap[w.heap.size+1]? =some (.cells #[.slice none 0 0,.slice none 0 0,.slice none 0 0] 28 (0,0)):=by
  rw[hv];have:=zG (w.alloc (.cells #[St x0,St x1,St x2] 45)) (.cells #[.slice none 0 0,.slice none 0 0,.slice none 0 0] 28);rw[zH] at this;exact this
 have k0:v1.cell? ⟨w.heap.size,0,none⟩=some (St x0):=by rw[zJ A1];rfl
 have k1:v1.cell? ⟨w.heap.size,1,none⟩=some (St x1):=by rw[zJ A1];rfl
 have k2:v1.cell? ⟨w.heap.size,2,none⟩=some (St x2):=by rw[zJ A1];rfl
 have HC:=hid (VC.out v1 b1);have B1:=hid b1;have P1:=hid A1;have P2:=hid A2;have HV:=hid hv.symm;clear hv b1 A1 A2 VC;go_enter Tryz.func16,Tryz.ntmps16;go_wp21;have h9:=HV.out;rw[show(w.alloc (.cells #[.string ⟨x0.toArray⟩,.string ⟨x1.toArray⟩,.string ⟨x2.toArray⟩] 45)).alloc (.cells #[.slice none 0 0,.slice none 0 0,.slice none 0 0] 28)=v1 from h9];clear h9 HV k0 k1 k2;refine zzM HC.out λy1 hb=>?_;have B2:=hid (B1.out.trans (hb.mono B1.out.size));have a1:=zac hb _ _ _ _ P1.out;have P4:=hid (zac hb _ _ _ _ P2.out);have k0:y1.cell? ⟨w.heap.size,0,none⟩=some (St x0):=by rw[zJ a1];rfl
 have k1:y1.cell? ⟨w.heap.size,1,none⟩=some (St x1):=by rw[zJ a1];rfl
 have k2:y1.cell? ⟨w.heap.size,2,none⟩=some (St x2):=by rw[zJ a1];rfl
 clear hb a1 P1 P2 B1 HC;have al:qL y1 (y1.alloc (.cells #[.slice none 0 0,.slice none 0 0,.slice none 0 0] 103)):=(zM _ y1).alloc (zN _) _;have k0:=zai al k0;have k1:=zai al k1;have k2:=zai al k2;clear al;obtain⟨P,hP⟩:=zzX y1.heap.size;obtain⟨t9,ht9⟩:=zzX ((y1.alloc (.cells #[.slice none 0 0,.slice none 0 0,.slice none 0 0] 103)).alloc (.cells #[St x0,St x1,St x2] 22));have HP9:Hid (MkS w P x0 x1 x2 (.slice none 0 0) (.slice none 0 0) (.slice none 0 0) t9):=hid (by
  have hb:qL y1 t9:=by rw[ht9];exact((zM _ y1).alloc (zN _) _).alloc (by simp) _
  refine⟨B2.out.trans (hb.mono B2.out.size),by rw[hP];exact(Array.getElem?_eq_some_iff.1 P4.out).1,zac hb _ _ _ _ P4.out,?_,?_⟩
  ·rw[ht9,hP];exact(Below.heap_alloc _ _ _ (by simp)).trans (zG y1 _)
  ·rw[ht9,hP]
   have:=zG (y1.alloc (.cells #[.slice none 0 0,.slice none 0 0,.slice none 0 0] 103)) (.cells #[St x0,St x1,St x2] 22);rw[zH] at this;exact this)
 have HT9:=hid ht9.symm;have HPe:=hid hP.symm;clear ht9 hP B2 P4;go_wp21;have h9:=HT9.out;rw[show(y1.alloc (.cells #[.slice none 0 0,.slice none 0 0,.slice none 0 0] 103)).alloc (.cells #[.string ⟨x0.toArray⟩,.string ⟨x1.toArray⟩,.string ⟨x2.toArray⟩] 22)=t9 from h9,HPe.out];clear h9 HT9 HPe k0 k1 k2;refine wp_loop_rounds 4 ?_;rw[rounds_succ];obtain⟨d0,d1,d2,z0,z1,z2⟩:=HP9.out.cells;have HC:=hid (N0.out t9 HP9.out.bel);go_wp21;clear d0 d1 d2 z0 z1 z2;refine HC.out.mono ?_;rintro e r0 ⟨u,rfl,hb,hu⟩;obtain⟨a0,m0,j0,rfl⟩:=hu.any;have HR0:=hid (HP9.out.next hb);have HU0:=hid hu;clear hb hu HC HP9;obtain⟨d0,d1,d2,z0,z1,z2⟩:=HR0.out.cells;have fz:=HR0.out.soft 0;obtain⟨t0,ht0⟩:=zzX (r0.setCell ⟨P,0,none⟩ (.slice a0 m0 j0));have hp:=HR0.out.put0 (.slice a0 m0 j0);obtain⟨-,hne,hsz⟩:=HR0.out.ne 0 (.slice a0 m0 j0);have hno:=zbc HR0.out.h2 ⟨_,_,_,rfl⟩ ⟨_,_,_,rfl⟩ ⟨_,_,_,rfl⟩;rw[<-ht0] at hp hne hsz;have HP0:=hid hp;have HU0:=hid (HU0.out.other hne hsz hno);have HT:=hid ht0.symm;clear hp hne hsz hno ht0;go_wp21
 try rw[HT.out]
 clear HT d0 d1 d2 z0 z1 z2 fz HR0;rw[rounds_succ];obtain⟨d0,d1,d2,z0,z1,z2⟩:=HP0.out.cells;have HC:=hid (N1.out t0 HP0.out.bel);go_wp21;clear d0 d1 d2 z0 z1 z2;refine HC.out.mono ?_;rintro e r1 ⟨u,rfl,hb,hu⟩;obtain⟨a1,m1,j1,rfl⟩:=hu.any;have HR1:=hid (HP0.out.next hb);have HU1:=hid hu;have HU0:=hid (HU0.out.below hb);clear hb hu HC HP0;obtain⟨d0,d1,d2,z0,z1,z2⟩:=HR1.out.cells;have fz:=HR1.out.soft 1;obtain⟨t1,ht1⟩:=zzX (r1.setCell ⟨P,1,none⟩ (.slice a1 m1 j1));have hp:=HR1.out.put1 (.slice a1 m1 j1);obtain⟨-,hne,hsz⟩:=HR1.out.ne 1 (.slice a1 m1 j1);have hno:=zbc HR1.out.h2 ⟨_,_,_,rfl⟩ ⟨_,_,_,rfl⟩ ⟨_,_,_,rfl⟩;rw[<-ht1] at hp hne hsz;have HP1:=hid hp;have HU1:=hid (HU1.out.other hne hsz hno);have HU0:=hid (HU0.out.other hne hsz hno);have HT:=hid ht1.symm;clear hp hne hsz hno ht1;go_wp21
 try rw[HT.out]
 clear HT d0 d1 d2 z0 z1 z2 fz HR1;rw[rounds_succ];obtain⟨d0,d1,d2,z0,z1,z2⟩:=HP1.out.cells;have HC:=hid (N2.out t1 HP1.out.bel);go_wp21;clear d0 d1 d2 z0 z1 z2;refine HC.out.mono ?_;rintro e r2 ⟨u,rfl,hb,hu⟩;obtain⟨a2,m2,j2,rfl⟩:=hu.any;have HR2:=hid (HP1.out.next hb);have HU2:=hid hu;have HU0:=hid (HU0.out.below hb);have HU1:=hid (HU1.out.below hb);clear hb hu HC HP1;obtain⟨d0,d1,d2,z0,z1,z2⟩:=HR2.out.cells;have fz:=HR2.out.soft 2;obtain⟨t2,ht2⟩:=zzX (r2.setCell ⟨P,2,none⟩ (.slice a2 m2 j2));have hp:=HR2.out.put2 (.slice a2 m2 j2);obtain⟨-,hne,hsz⟩:=HR2.out.ne 2 (.slice a2 m2 j2);have hno:=zbc HR2.out.h2 ⟨_,_,_,rfl⟩ ⟨_,_,_,rfl⟩ ⟨_,_,_,rfl⟩;rw[<-ht2] at hp hne hsz;have HP2:=hid hp;have HU2:=hid (HU2.out.other hne hsz hno);have HU0:=hid (HU0.out.other hne hsz hno);have HU1:=hid (HU1.out.other hne hsz hno);have HT:=hid ht2.symm;clear hp hne hsz hno ht2;go_wp21
 try rw[HT.out]
 clear HT d0 d1 d2 z0 z1 z2 fz HR2;rw[rounds_succ];obtain⟨d0,d1,d2,z0,z1,z2⟩:=HP2.out.cells;have hm:=HP2.out.h1;have g0:t2.cell? ⟨w.heap.size+1,0,none⟩=some (.slice none 0 0):=by rw[zJ hm];rfl
 have g1:t2.cell? ⟨w.heap.size+1,1,none⟩=some (.slice none 0 0):=by rw[zJ hm];rfl
 have g2:t2.cell? ⟨w.heap.size+1,2,none⟩=some (.slice none 0 0):=by rw[zJ hm];rfl
 have f0:=Go.Joins.unfrozen_of_block hm 0;have f1:=Go.Joins.unfrozen_of_block hm 1;have f2:=Go.Joins.unfrozen_of_block hm 2;obtain⟨t3,ht3⟩:=zzX (((t2.setCell ⟨w.heap.size+1,0,none⟩ (.slice a0 m0 j0)).setCell ⟨w.heap.size+1,1,none⟩ (.slice a1 m1 j1)).setCell ⟨w.heap.size+1,2,none⟩ (.slice a2 m2 j2));have hno:=zbc hm ⟨_,_,_,rfl⟩ ⟨_,_,_,rfl⟩ ⟨_,_,_,rfl⟩;have hne:∀b,b≠w.heap.size+1->t3.heap[b]? =t2.heap[b]? :=λb hb=>by
  rw[ht3,yE _ _ _ _ (by exact hb),yE _ _ _ _ (by exact hb),yE _ _ _ _ (by exact hb)]
 have hsz:t2.heap.size<=t3.heap.size:=by rw[ht3];simp[World.setCell]
 have hB3:qL w t3:=by
  rw[ht3];exact((HP2.out.bel.setCell (p:=⟨w.heap.size+1,0,none⟩) (by show _<=w.heap.size+1;omega) _).setCell (p:=⟨w.heap.size+1,1,none⟩) (by show _<=w.heap.size+1;omega) _).setCell (p:=⟨w.heap.size+1,2,none⟩) (by show _<=w.heap.size+1;omega) _
 have h3:=zK (i:=2) (zK (i:=1) (zK (i:=0) hm (.slice a0 m0 j0)) (.slice a1 m1 j1)) (.slice a2 m2 j2);rw[<-ht3] at h3;have HF:=hid (⟨hB3,HU0.out.other hne hsz hno,HU1.out.other hne hsz hno,HU2.out.other hne hsz hno,h3⟩:qL w t3/\SdL (.slice a0 m0 j0) L0 t3/\SdL (.slice a1 m1 j1) L1 t3/\SdL (.slice a2 m2 j2) L2 t3/\_);have HT:=hid ht3.symm;clear hno hne hsz hB3 ht3 hm HU0 HU1 HU2 HP2 h3;go_wp21
 try rw[HT.out]
 have h3:=HF.out.2.2.2.2;clear HT d0 d1 d2 z0 z1 z2 g0 g1 g2 f0 f1 f2;have g0:t3.cell? ⟨w.heap.size+1,0,none⟩=some (.slice a0 m0 j0):=by rw[zJ h3];rfl
 have g1:t3.cell? ⟨w.heap.size+1,1,none⟩=some (.slice a1 m1 j1):=by rw[zJ h3];rfl
 have g2:t3.cell? ⟨w.heap.size+1,2,none⟩=some (.slice a2 m2 j2):=by rw[zJ h3];rfl
 clear h3;exact bodyPost_ret (v:=.tuple #[.agg #[.slice a0 m0 j0,.slice a1 m1 j1,.slice a2 m2 j2],.int .i64 0]) (by simp[results,Tryz.results16,go_sem,g0,g1,g2]) rfl ⟨_,_,_,rfl,HF.out.1,HF.out.2.1,HF.out.2.2.1,HF.out.2.2.2.1⟩
structure SdeG (w:zA) (a b c:List UInt8) (d s0 s1 s2:Value) (M:List (Rat×Nat)) (E F:Prop) (r:Value) (er:Int) (f:Nat->Bool) (W:zA):Prop where
 bel:qL w W
 h0:W.heap[w.heap.size]? =some (.cells #[St a,St b,St c,d] 26 (0,0))
 h1:W.heap[w.heap.size+1]? =some (.cells #[s0,s1,s2] 28 (0,0))
 sr:f 9=true->OutR M E F r er W
section
variable {w W W':zA} {a b c:List UInt8} {d s0 s1 s2 r:Value} {M:List (Rat×Nat)} {E F:Prop} {er:Int} {f g:Nat->Bool}
theorem SdeG.congr (h:SdeG w a b c d s0 s1 s2 M E F r er f W) (e:g 9=f 9):SdeG w a b c d s0 s1 s2 M E F r er g W:=⟨h.bel,h.h0,h.h1,by rw[e];exact h.sr⟩
theorem SdeG.next (h:SdeG w a b c d s0 s1 s2 M E F r er f W) (hb:qL W W'):SdeG w a b c d s0 s1 s2 M E F r er f W':=
 have hc:=zac hb
 ⟨h.bel.trans (hb.mono h.bel.size),hc _ _ _ _ h.h0,hc _ _ _ _ h.h1,λe=>(h.sr e).below hb⟩
theorem SdeG.res (h:SdeG w a b c d s0 s1 s2 M E F r er f W) (hb:qL W W') {u:Value} {eu:Int} (hu:OutR M E F u eu W'):SdeG w a b c d s0 s1 s2 M E F u eu g W':=
 have hn:=h.next hb
 ⟨hn.bel,hn.h0,hn.h1,λ_=>hu⟩
theorem SdeG.hcells (h:SdeG w a b c d s0 s1 s2 M E F r er f W):W.cell? ⟨w.heap.size,0,none⟩=some (St a)/\W.cell? ⟨w.heap.size,1,none⟩=some (St b)/\W.cell? ⟨w.heap.size,2,none⟩=some (St c)/\W.cell? ⟨w.heap.size,3,none⟩=some d:=
 ⟨by rw[zJ h.h0];rfl,by rw[zJ h.h0];rfl,by rw[zJ h.h0];rfl,by rw[zJ h.h0];rfl⟩
theorem SdeG.mcells (h:SdeG w a b c d s0 s1 s2 M E F r er f W):W.cell? ⟨w.heap.size+1,0,none⟩=some s0/\W.cell? ⟨w.heap.size+1,1,none⟩=some s1/\W.cell? ⟨w.heap.size+1,2,none⟩=some s2:=
 ⟨by rw[zJ h.h1];rfl,by rw[zJ h.h1];rfl,by rw[zJ h.h1];rfl⟩
end
theorem z36 (a b c:List UInt8) (qd q0 q1 q2:Option Addr) (nd kd n0 n1 n2 k0 k1 k2:Nat) (M M2:List (Rat×Nat)) (E E2 F F2:Prop) (sg e2:Int) (w:zA)
 (CK:Hid (∀W:zA,qL w W->∀B,W.heap[B]? =some (.cells #[St a,St b,St c,.slice qd nd kd] 26 (0,0))->qJ 44 #[.slice (some ⟨B,0,none⟩) 1 1] W (.int .i64 0)))
 (K0:Hid (∀W:zA,qL w W->qJ 26 #[.slice q0 n0 k0] W (.int .i64 0)))
 (K1:Hid (∀W:zA,qL w W->qJ 26 #[.slice q1 n1 k1] W (.int .i64 0)))
 (K2:Hid (∀W:zA,qL w W->qJ 26 #[.slice q2 n2 k2] W (.int .i64 0)))
 (SL:Hid (∀W:zA,qL w W->zC zF 49 #[.agg #[.slice q0 n0 k0,.slice q1 n1 k1,.slice q2 n2 k2],.agg #[St a,St b,St c]] W λe w'=>∃q n c r,e=.returned (.tuple #[.slice q n c,.int .i64 r])/\zB W.heap.size W w'/\OutR M E F (.slice q n c) r w'))
 (SB:Hid (∀(W:zA) (r:Value),E->qL w W->SdL r M W->zC zF 50 #[r,.slice qd nd kd] W λe w'=>∃q n c r,e=.returned (.tuple #[.slice q n c,.int .i64 r])/\zB W.heap.size W w'/\OutR M2 E2 F2 (.slice q n c) r w'))
 (SG:Hid (∀(W:zA) (u:Value),E->E2->qL w W->SdL u M2 W->qJ 51 #[u] W (.tuple #[.int .i64 sg,.int .i64 e2]))):
 zC zF 13 #[.agg #[St a,St b,St c,.slice qd nd kd],.agg #[.slice q0 n0 k0,.slice q1 n1 k1,.slice q2 n2 k2]] w λe w'=>∃m r,e=.returned (.tuple #[.int .i64 m,.int .i64 r])/\zB w.heap.size w w'/\((r=4/\m=0/\(F\/F2))\/(m=sg/\r=e2/\E/\E2)):=by
 obtain⟨v1,hv⟩:=zzX ((w.alloc (.cells #[St a,St b,St c,.slice qd nd kd] 26)).alloc (.cells #[.slice q0 n0 k0,.slice q1 n1 k1,.slice q2 n2 k2] 28));have b1:qL w v1:=by rw[hv];exact((zM _ w).alloc (zN _) _).alloc (by simp) _
 have A1:v1.heap[w.heap.size]? =some (.cells #[St a,St b,St c,.slice qd nd kd] 26 (0,0)):=by rw[hv];exact(Below.heap_alloc _ _ _ (by simp)).trans (zG w _)
 have A2:v1.heap[w.heap.size+1]? =some (.cells #[.slice q0 n0 k0,.slice q1 n1 k1,.slice q2 n2 k2] 28 (0,0)):=by
  rw[hv];have:=zG (w.alloc (.cells #[St a,St b,St c,.slice qd nd kd] 26)) (.cells #[.slice q0 n0 k0,.slice q1 n1 k1,.slice q2 n2 k2] 28);rw[zH] at this;exact this
 have hT1:SdeG w a b c (.slice qd nd kd) (.slice q0 n0 k0) (.slice q1 n1 k1) (.slice q2 n2 k2) M E F (.slice none 0 0) 0 (λ_=>false) v1:=⟨b1,A1,A2,λk=>(by cases k)⟩;obtain⟨z0,z1,z2,z3⟩:=hT1.hcells;have hsz:v1.heap.size=w.heap.size+1+1:=by rw[hv];simp
 obtain⟨v2,hv2⟩:=zzX (v1.alloc (.cells #[St a,St b,St c,.slice qd nd kd] 26));have b2:qL v1 v2:=by rw[hv2];exact(zM _ v1).alloc (zN _) _
 have A3:v2.heap[v1.heap.size]? =some (.cells #[St a,St b,St c,.slice qd nd kd] 26 (0,0)):=by rw[hv2];exact zG v1 _
 rw[hsz] at A3;have HT2:=hid (hT1.next b2);have HC:=hid (CK.out v2 HT2.out.bel _ A3);have HV:=hid hv.symm;have HV2:=hid hv2.symm;clear hv hv2 b1 b2 A1 A2 A3 hT1 hsz CK;go_enter Tryz.func13,Tryz.ntmps13;go_wp21;have h9:=HV.out;rw[show(w.alloc (.cells #[.string ⟨a.toArray⟩,.string ⟨b.toArray⟩,.string ⟨c.toArray⟩,.slice qd nd kd] 26)).alloc (.cells #[.slice q0 n0 k0,.slice q1 n1 k1,.slice q2 n2 k2] 28)=v1 from h9];clear h9 HV;go_wp21;have h9:=HV2.out;rw[show v1.alloc (.cells #[.string ⟨a.toArray⟩,.string ⟨b.toArray⟩,.string ⟨c.toArray⟩,.slice qd nd kd] 26)=v2 from h9];clear h9 HV2 z0 z1 z2 z3;refine zzM HC.out λy1 hb=>?_;have HT3:=hid (HT2.out.next hb);clear hb HC HT2;obtain⟨z0,z1,z2⟩:=HT3.out.mcells;obtain⟨Q,hQ⟩:=zzX y1.heap.size;obtain⟨y2,hy2⟩:=zzX (y1.alloc (.cells #[.slice q0 n0 k0,.slice q1 n1 k1,.slice q2 n2 k2] 24));have ay:qL y1 y2:=by rw[hy2];exact(zM _ y1).alloc (zN _) _
 have QB:y2.heap[Q]? =some (.cells #[.slice q0 n0 k0,.slice q1 n1 k1,.slice q2 n2 k2] 24 (0,0)):=by rw[hy2,hQ];exact zG y1 _
 have HT4:=hid (HT3.out.next ay);have HQ:=hid QB;have HY:=hid hy2.symm;have HQe:=hid hQ.symm;clear hy2 ay QB HT3 hQ;go_wp21;have h9:=HY.out;rw[h9,HQe.out];clear h9 HY HQe z0 z1 z2;refine wp_loop_rounds 4 ?_;rw[rounds_succ];have x0:y2.cell? ⟨Q,0,none⟩=some (.slice q0 n0 k0):=by rw[zJ HQ.out];rfl
 have HK:=hid (K0.out y2 HT4.out.bel);go_wp21;clear x0;refine zzM HK.out λr0 hb=>?_;have HR0:=hid (HT4.out.next hb);have HQ0:=hid (zac hb _ _ _ _ HQ.out);clear hb HK HT4 HQ;go_wp21;rw[rounds_succ];have x1:r0.cell? ⟨Q,1,none⟩=some (.slice q1 n1 k1):=by rw[zJ HQ0.out];rfl
 have HK:=hid (K1.out r0 HR0.out.bel);go_wp21;clear x1;refine zzM HK.out λr1 hb=>?_;have HR1:=hid (HR0.out.next hb);have HQ1:=hid (zac hb _ _ _ _ HQ0.out);clear hb HK HR0 HQ0;go_wp21;rw[rounds_succ];have x2:r1.cell? ⟨Q,2,none⟩=some (.slice q2 n2 k2):=by rw[zJ HQ1.out];rfl
 have HK:=hid (K2.out r1 HR1.out.bel);go_wp21;clear x2;refine zzM HK.out λr2 hb=>?_;have HR2:=hid (HR1.out.next hb);have HQ2:=hid (zac hb _ _ _ _ HQ1.out);clear hb HK HR1 HQ1;go_wp21;rw[rounds_succ];go_wp21;clear HQ2 K0 K1 K2;refine zc4 (λ(g3:Option Addr×Nat×Nat×Int) i=>([.pointer (some ⟨w.heap.size+1,0,none⟩),.slice q0 n0 k0,.pointer (some ⟨w.heap.size+1,1,none⟩),.slice q1 n1 k1,.pointer (some ⟨w.heap.size+1,2,none⟩),.slice q2 n2 k2,.agg #[.slice q0 n0 k0,.slice q1 n1 k1,.slice q2 n2 k2],.agg #[St a,St b,St c,.slice qd nd kd],.agg #[St a,St b,St c],.tuple #[.slice g3.1 g3.2.1 g3.2.2.1,.int .i64 g3.2.2.2],.tuple #[.slice g3.1 g3.2.1 g3.2.2.1,.int .i64 g3.2.2.2],.slice g3.1 g3.2.1 g3.2.2.1,.int .i64 g3.2.2.2,.slice g3.1 g3.2.1 g3.2.2.1,.int .i64 g3.2.2.2]:List Value).getD i undef) (λg3=>SdeG w a b c (.slice qd nd kd) (.slice q0 n0 k0) (.slice q1 n1 k1) (.slice q2 n2 k2) M E F (.slice g3.1 g3.2.1 g3.2.2.1) g3.2.2.2) (by kernel_rfl) (by kernel_rfl) (none,0,0,0) (HR2.out.next (zM _ _).drew) λg3=>?_;refine qB (.pointer (some ⟨w.heap.size+1,0,none⟩)) (λf W' h=>h.congr rfl) ?_;refine qB (.slice q0 n0 k0) (λf W' h=>h.congr rfl) ?_ (hy:=λf W' hf h=>by obtain⟨q0',q1',q2'⟩:=h.mcells;go_simp);refine qB (.pointer (some ⟨w.heap.size+1,1,none⟩)) (λf W' h=>h.congr rfl) ?_;simp only[zzQ];refine qB (.slice q1 n1 k1) (λf W' h=>h.congr rfl) ?_ (hy:=λf W' hf h=>by obtain⟨q0',q1',q2'⟩:=h.mcells;go_simp);refine qB (.pointer (some ⟨w.heap.size+1,2,none⟩)) (λf W' h=>h.congr rfl) ?_;refine qB (.slice q2 n2 k2) (λf W' h=>h.congr rfl) ?_ (hy:=λf W' hf h=>by obtain⟨q0',q1',q2'⟩:=h.mcells;go_simp);simp only[zzQ];refine qB (.agg #[.slice q0 n0 k0,.slice q1 n1 k1,.slice q2 n2 k2]) (λf W' h=>h.congr rfl) ?_;refine qB (.agg #[St a,St b,St c,.slice qd nd kd]) (λf W' h=>h.congr rfl) ?_ (hy:=λf W' hf h=>by obtain⟨q0',q1',q2',q3'⟩:=h.hcells;go_simp);simp only[zzQ]
 refine zbv (.agg #[St a,St b,St c]) (by rfl) (by rfl) (λf W' hf h C' hC'=>by
  go_simp;refine zzM (zcl a b c qd nd kd _) λw' hb=>?_;exact⟨_,rfl,hC' _ ((h.next hb).congr rfl)⟩) ?_
 try simp only[zzQ]
 refine zdc (.tuple #[.slice g3.1 g3.2.1 g3.2.2.1,.int .i64 g3.2.2.2]) (by rfl) (by rfl) (λf W' hf h C' hC'=>by
  have h9:=hf.self;have h10:=hf.no (j:=10) hf.self (by kernel_rfl);have h11:=hf.no (j:=11) h10 (by kernel_rfl);have h13:=hf.no (j:=13) h11 (by kernel_rfl);have h12:=hf.no (j:=12) h10 (by kernel_rfl);have h14:=hf.no (j:=14) h12 (by kernel_rfl);have hg:=SL.out W' h.bel;go_simp;refine hg.mono ?_;rintro e w' ⟨u1,u2,u3,eu,rfl,hb,hu⟩;have hj:∀j,f j=true->(([.pointer (some ⟨w.heap.size+1,0,none⟩),.slice q0 n0 k0,.pointer (some ⟨w.heap.size+1,1,none⟩),.slice q1 n1 k1,.pointer (some ⟨w.heap.size+1,2,none⟩),.slice q2 n2 k2,.agg #[.slice q0 n0 k0,.slice q1 n1 k1,.slice q2 n2 k2],.agg #[St a,St b,St c,.slice qd nd kd],.agg #[St a,St b,St c],.tuple #[.slice u1 u2 u3,.int .i64 eu],.tuple #[.slice u1 u2 u3,.int .i64 eu],.slice u1 u2 u3,.int .i64 eu,.slice u1 u2 u3,.int .i64 eu]:List Value).getD j undef)=(([.pointer (some ⟨w.heap.size+1,0,none⟩),.slice q0 n0 k0,.pointer (some ⟨w.heap.size+1,1,none⟩),.slice q1 n1 k1,.pointer (some ⟨w.heap.size+1,2,none⟩),.slice q2 n2 k2,.agg #[.slice q0 n0 k0,.slice q1 n1 k1,.slice q2 n2 k2],.agg #[St a,St b,St c,.slice qd nd kd],.agg #[St a,St b,St c],.tuple #[.slice g3.1 g3.2.1 g3.2.2.1,.int .i64 g3.2.2.2],.tuple #[.slice g3.1 g3.2.1 g3.2.2.1,.int .i64 g3.2.2.2],.slice g3.1 g3.2.1 g3.2.2.1,.int .i64 g3.2.2.2,.slice g3.1 g3.2.1 g3.2.2.1,.int .i64 g3.2.2.2]:List Value).getD j undef):=by
   intro j hj
   match j,hj with
   |0,_|1,_|2,_|3,_|4,_|5,_|6,_|7,_|8,_=>rfl
   |9,hj=>rw[h9] at hj;cases hj
   |10,hj=>rw[h10] at hj;cases hj
   |11,hj=>rw[h11] at hj;cases hj
   |13,hj=>rw[h13] at hj;cases hj
   |12,hj=>rw[h12] at hj;cases hj
   |14,hj=>rw[h14] at hj;cases hj
   |_+15,_=>rfl
  exact⟨_,rfl,hC' (u1,u2,u3,eu) _ hj (h.res hb hu)⟩) ?_
 refine qB (.tuple #[.slice g3.1 g3.2.1 g3.2.2.1,.int .i64 g3.2.2.2]) (λf W' h=>h.congr rfl) ?_;refine qB (.slice g3.1 g3.2.1 g3.2.2.1) (λf W' h=>h.congr rfl) ?_;simp only[zzQ];refine qB (.int .i64 g3.2.2.2) (λf W' h=>h.congr rfl) ?_;refine qB (.slice g3.1 g3.2.1 g3.2.2.1) (λf W' h=>h.congr rfl) ?_;refine qB (.int .i64 g3.2.2.2) (λf W' h=>h.congr rfl) ?_;simp only[zzQ];refine ze1 λf X hf h=>?_;obtain⟨g1,g2,g4,ge⟩:=g3;have hr:=h.sr (hf 9 (by decide));have HX:=hid h.bel;obtain⟨z0,z1,z2,z3⟩:=h.hcells;dsimp only at hr⊢;rcases hr with⟨rfl,hr,hE⟩|⟨rfl,hu,hF⟩
 ·have HS:=hid (SB.out X _ hE h.bel hr)
  have HSG:=hid λW u=>SG.out W u hE;have HEE:=hid hE;clear h hf hr HR2 SL SB hE SG;go_wp21;refine HS.out.mono ?_;rintro e t1 ⟨u1,u2,u3,ew,rfl,hb,hu⟩;have hb2:=HX.out.trans (hb.mono HX.out.size);have HB:=hid hb2;rcases hu with⟨rfl,hu,hE⟩|⟨rfl,hu,hF⟩
  ·have HG:=hid (HSG.out t1 _ hE hb2 hu)
   have HEF:=hid hE;clear hb hb2 hu HS HX HSG z0 z1 z2 z3 hE;go_wp21;refine zzM HG.out λt2 hb=>?_;have HB2:=qT HB hb;clear hb;go_wp21;go_ret2;exact⟨_,_,rfl,HB2.out,.inr ⟨rfl,rfl,HEE.out,HEF.out⟩⟩
  ·injection hu with e1 e2 e3
   subst e1;subst e2;subst e3;have HFF:=hid hF;clear hb hb2 HS HX HSG z0 z1 z2 z3 hF;go_wp21;go_ret2;exact⟨_,_,rfl,HB.out,.inl ⟨rfl,rfl,.inr HFF.out⟩⟩
 ·injection hu with e1 e2 e3
  subst e1;subst e2;subst e3;have HFF:=hid hF;clear h hf HR2 SL SB SG hF;go_wp21;go_ret2;exact⟨_,_,rfl,HX.out,.inl ⟨rfl,rfl,.inl HFF.out⟩⟩
theorem zjj (a b c:List UInt8) (qd q0 q1 q2:Option Addr) (nd kd n0 n1 n2 k0 k1 k2:Nat) (M M2:List (Rat×Nat)) (sg:Int) (w:zA)
 (CK:Hid (∀W:zA,qL w W->∀B,W.heap[B]? =some (.cells #[St a,St b,St c,.slice qd nd kd] 26 (0,0))->qJ 44 #[.slice (some ⟨B,0,none⟩) 1 1] W (.int .i64 0)))
 (K0:Hid (∀W:zA,qL w W->qJ 26 #[.slice q0 n0 k0] W (.int .i64 0)))
 (K1:Hid (∀W:zA,qL w W->qJ 26 #[.slice q1 n1 k1] W (.int .i64 0)))
 (K2:Hid (∀W:zA,qL w W->qJ 26 #[.slice q2 n2 k2] W (.int .i64 0)))
 (SL:Hid (∀W:zA,qL w W->zC zF 49 #[.agg #[.slice q0 n0 k0,.slice q1 n1 k1,.slice q2 n2 k2],.agg #[St a,St b,St c]] W λe w'=>∃r,e=.returned (.tuple #[r,.int .i64 0])/\zB W.heap.size W w'/\SdL r M w'))
 (SB:Hid (∀(W:zA) (r:Value),qL w W->SdL r M W->zC zF 50 #[r,.slice qd nd kd] W λe w'=>∃u,e=.returned (.tuple #[u,.int .i64 0])/\zB W.heap.size W w'/\SdL u M2 w'))
 (SG:Hid (∀(W:zA) (u:Value),qL w W->SdL u M2 W->qJ 51 #[u] W (.tuple #[.int .i64 sg,.int .i64 0]))):
 qJ 13 #[.agg #[St a,St b,St c,.slice qd nd kd],.agg #[.slice q0 n0 k0,.slice q1 n1 k1,.slice q2 n2 k2]] w (.tuple #[.int .i64 sg,.int .i64 0]):=
 (z36 a b c qd q0 q1 q2 nd kd n0 n1 n2 k0 k1 k2 M M2 True True False False sg 0 w CK K0 K1 K2 (hid λW h1=>zce (SL.out W h1)) (hid λW u _ h1 h2=>zce (SB.out W u h1 h2)) (hid λW u _ _ h1 h2=>SG.out W u h1 h2)).mono λe w' ⟨m,r,h1,h2,h3⟩=>by
   rcases h3 with⟨_,_,h⟩|⟨rfl,rfl, -⟩
   ·exact h.elim False.elim False.elim
   ·exact⟨h1,h2⟩
end
end Go.Proofs.YtgeapfaiacoajaaGreatDoor
