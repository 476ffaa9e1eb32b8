/- integer.divide. -/
import Derived.Test.YtfoodcpnnmonhaaGreatDoorZ03
set_option maxRecDepth 100000
set_option maxHeartbeats 8000000
open Go renaming World → zA, Calls → zC
open Go.RowKit renaming Below → zB, intOf → zL
open Go.Lib renaming decDigits → zD, itoa → zE
open Go.Proofs.Tryz renaming prog → zF
open Go.World renaming alloc_heap_new → zG, size_alloc → zH
open Go.IntWalk renaming i64_in → zI
open Go.RowKit.Below renaming refl → zM, heap_setCell → yE
open Nat renaming le_refl → zN, mod_eq_of_lt → zQ, zero_le → zR, pow_le_pow_right → yF, pow_succ → yO, mul_comm → yP
open List renaming length_append → zU, length_map → zV, size_toArray → zZ, length_cons → yA, nil_append → yI, append_assoc → yL, cons_append → yM
namespace Go.Proofs.YtfoodcpnnmonhaaGreatDoor
open Go.RowKit Go.Shelf Lib Str Limb
attribute [local go_sem] Oper.semAt_some
def zju (w:zA) (x y:Nat) (e:Ending) (w':zA):Prop:=
 ∃v1 v2,e=.returned (.tuple #[v1,v2])/\Sl w' v1 ((zaa B9 x).map I)/\Sl w' v2 ((zaa B9 y).map I)/\zB w.heap.size w w'
theorem zsq (va vb:Value) (m n:Nat) (w:zA) (ha:Sl w va ((zaa B9 m).map I)) (hb:Sl w vb ((zaa B9 n).map I)) (la:(zaa B9 m).length<=1000) (lb:(zaa B9 n).length<=1000) (h:m<n):
 zC zF 130 #[va,vb] w (zju w (m/n) (m%n)):=by
 obtain⟨pa,ca,rfl, -⟩:=id ha;obtain⟨pb,cb,rfl, -⟩:=id hb;have HA:=hid ha;clear ha;have HB:=hid hb;clear hb;simp only[zV] at*
 refine(callsIn_wide (n:=3)).1 ?_;refine callsIn_of_wp_marks Tryz.func130 rfl trivial ?_ rfl;simp only[Tryz.ntmps130,zZ,yA,List.length_nil,Nat.reduceAdd,Nat.reduceSub,Array.replicate_succ,Array.replicate_zero,List.push_toArray,List.append_toArray,yI,yM];have hcmp:=λW h1 h2=>zi9 (.slice pa (zaa B9 m).length ca) (.slice pb (zaa B9 n).length cb) m n W h1 h2 la lb;have HC:=hid hcmp;clear hcmp;gi_wp2_with (refine⟨trivial,?_⟩;gi_at_call 181;refine(callsIn_wide.2 (HC.out _ (HA.out.below ?c1) (HB.out.below ?c2))).mono ?_)
 case c1=>exact(zM _ _).alloc (zN _) _
 case c2=>exact(zM _ _).alloc (zN _) _
 rintro e w1 ⟨c,rfl,⟨hc1,hc2⟩,hB1⟩;have hcn:c<0:=hc1.2 h;have HLT:=hid h;clear hc1 hc2 h;rw[zH] at hB1;have bQ:Boxed w1 w.heap.size 39 (.slice none 0 0):=(hB1.block _ (by omega)).trans (Boxed.new w 39 (.slice none 0 0));have hB:qL w w1:=((zM _ w).alloc (zN _) _).trans (hB1.mono (by omega));have hq:=bQ.cell;have hqf:=bQ.frozen;clear hB1;gi_wp2;have hq2:=za9 (u:=.slice none 0 0) hq
 exact⟨.tuple #[.slice none 0 0,.slice pa (zaa B9 m).length ca],by simp[results,Tryz.f130,go_sem,hq2],_,_,rfl,by rw[Nat.div_eq_of_lt HLT.out,zaz];exact Sl.nil _,by
  have hB2:=hB.setCell (p:=⟨w.heap.size,0,none⟩) (by simp) (.slice none 0 0);rw[zQ HLT.out];exact HA.out.below hB2,hB.setCell (p:=⟨w.heap.size,0,none⟩) (by simp) _⟩
theorem Sl.box {w:zA} {v:Value} {l:List Nat} {b n c:Nat} {s:Option Addr} (h:Sl w v (l.map I)) (hb:w.cell? ⟨b,0,none⟩=some (.slice s n c)) (u:Value):Sl (w.setCell ⟨b,0,none⟩ u) v (l.map I):=by
 obtain⟨p,cap,e,hcap,hc⟩:=h;refine⟨p,cap,e,hcap,λi x hx=>?_⟩;obtain⟨b',off,ep,h'⟩:=hc i x hx;refine⟨b',off,ep,?_⟩;rw[World.cell?_setCell_other]
 ·exact h'
 ·intro e
  rw[<-e,hb] at h';cases h';rw[List.getElem?_map] at hx
  cases hl:l[i]? with
  |none=>rw[hl] at hx;cases hx
  |some y=>rw[hl] at hx;cases hx
theorem zsr {n d:Nat} (h:(zaa B9 n).length=1) (hd:d=(zaa B9 n)[0]?.getD 0):d=n/\0<d/\d<B9:=by
 have h1:=zam (B:=B9) (by decide) n;have h2:=zak (B:=B9) (by decide) n;have h3:n≠0:=λe=>by rw[(zbd (B:=B9) (by decide) n).2 e] at h;cases h
 generalize zaa B9 n=l at*
 match l,h with
 |[x],_=>
  have:x<B9:=h2 x (by simp);simp[valL] at h1 hd;omega
theorem zur (va vb:Value) (m n:Nat) (w:zA) (ha:Sl w va ((zaa B9 m).map I)) (hb:Sl w vb ((zaa B9 n).map I)) (la:(zaa B9 m).length<=1000) (lb:(zaa B9 n).length=1) (h:n<=m):
 zC zF 130 #[va,vb] w (zju w (m/n) (m%n)):=by
 obtain⟨pa,ca,rfl, -⟩:=id ha;obtain⟨pb,cb,rfl, -⟩:=id hb;have HA:=hid ha;clear ha;have HB:=hid hb;simp only[zV] at*
 rw[lb];have hcmp:=λW h1 h2=>zi9 (.slice pa (zaa B9 m).length ca) (.slice pb (zaa B9 n).length cb) m n W h1 h2 la (by omega);rw[lb] at hb HB hcmp;have HC:=hid hcmp;clear hcmp;obtain⟨d,hd⟩:=zzX ((zaa B9 n)[0]?.getD 0);obtain⟨d1,d2,d3⟩:=zsr lb hd;have hb2:Sl w (.slice pb (zaa B9 n).length cb) ((zaa B9 n).map I):=by rw[lb];exact hb
 obtain⟨bb,offb,rfl,hbb,hcapb,hcell⟩:=hb2.at (i:=0) (by omega);rw[<-hd,Nat.add_zero] at hcell;rw[lb] at hcapb;have hsh:=λW h1=>zoy (.slice pa (zaa B9 m).length ca) (zaa B9 m) d W h1 la (zak (by decide) m) d2 d3;rw[zam (by decide),d1] at hsh;rw[d1] at hcell;have HSH:=hid hsh;clear hsh hb2 hb hd d1 d2 d3 lb;refine(callsIn_wide (n:=3)).1 ?_;refine callsIn_of_wp_marks Tryz.func130 rfl trivial ?_ rfl;simp only[Tryz.ntmps130,zZ,yA,List.length_nil,Nat.reduceAdd,Nat.reduceSub,Array.replicate_succ,Array.replicate_zero,List.push_toArray,List.append_toArray,yI,yM];gi_wp2_with (refine⟨trivial,?_⟩;gi_at_call 181;refine(callsIn_wide.2 (HC.out _ (HA.out.below ?c1) (HB.out.below ?c2))).mono ?_)
 case c1=>exact(zM _ _).alloc (zN _) _
 case c2=>exact(zM _ _).alloc (zN _) _
 rintro e w1 ⟨c,rfl,⟨hc1,hc2⟩,hB1⟩;have hcn:¬c<0:=λk=>by have:=hc1.1 k;omega
 clear hc1 hc2 h;rw[zH] at hB1;have bQ:Boxed w1 w.heap.size 39 (.slice none 0 0):=(hB1.block _ (by omega)).trans (Boxed.new w 39 (.slice none 0 0));have hB:qL w w1:=((zM _ w).alloc (zN _) _).trans (hB1.mono (by omega));have hcell1:=hcell;rw[<-hB.cell (p:=⟨bb,offb,none⟩) hbb] at hcell1;clear hB1 hcell;have hslA:=HA.out.below hB;gi_wp2_with (refine⟨trivial,?_⟩;gi_at_call 198;refine(callsIn_wide.2 (HSH.out _ hslA)).mono ?_);clear hslA;rintro e w2 ⟨v1,v2,rfl,hs1,hs2,hB2⟩;obtain⟨p1,c1,e1, -⟩:=id hs1;obtain⟨p2,c2,e2, -⟩:=id hs2;generalize (List.map I (zaa B9 (m/n))).length=n1 at e1;generalize (List.map I (zaa B9 (m%n))).length=n2 at e2;subst e1 e2;have bQ2:Boxed w2 w.heap.size 39 (.slice none 0 0):=(hB2.block _ (Boxed.lt bQ)).trans bQ;have hq:=bQ2.cell;have hqf:=bQ2.frozen;have hBB:=hB.trans (hB2.mono hB.size);have l1:=Boxed.lt bQ;clear hB2 bQ hcell1;have HS1:=hid hs1;clear hs1;have HS2:=hid hs2;clear hs2;gi_wp2;have hq2:=za9 (u:=.slice p1 n1 c1) hq;have hB3:=hBB.setCell (p:=⟨w.heap.size,0,none⟩) (by simp) (.slice p1 n1 c1);exact⟨.tuple #[.slice p1 n1 c1,.slice p2 n2 c2],by simp[results,Tryz.f130,go_sem,hq2],_,_,rfl,HS1.out.box hq _,HS2.out.box hq _,hB3⟩
theorem zd6 {B:Nat} (hB:2<=B) {m n:Nat} (h:m<=n):(zaa B m).length<=(zaa B n).length:=by
 rcases Nat.lt_or_ge (zaa B n).length (zaa B m).length with h'|h'
 ·have:=zc2 hB h';omega
 ·exact h'
theorem zwh {B U V:Nat} (hB:2<=B) (h0:0<V) (h:V<=U):
 DivAt B (zaa B U++[0]) (zaa B V) ((zaa B U).length+1-(zaa B V).length) ((zaa B U).length+1-(zaa B V).length) (zaa B U++[0]) (List.replicate ((zaa B U).length+1-(zaa B V).length) 0):=by
 have hl:=zd6 hB h;have hv:0<(zaa B V).length:=by
  rcases Nat.eq_zero_or_pos (zaa B V).length with e|e
  ·have:=(zbd hB V).1 (List.length_eq_zero_iff.1 e);omega
  ·exact e
 refine⟨rfl,zg4 (zak hB U) (by omega),by simp,λx hx=>by rw[List.mem_replicate] at hx;omega,?_,?_,λi _=>by rw[List.getElem?_replicate];split<;>rfl⟩
 ·rw[zgd,Nat.mul_zero,Nat.add_zero]
 ·rw[zam hB V,List.drop_append_of_le_length (by omega),zcm,Nat.mul_zero,Nat.add_zero]
  have h1:=zb6 (zg5 (zak hB U) ((zaa B U).length+1-(zaa B V).length));rw[List.length_drop,show(zaa B U).length-((zaa B U).length+1-(zaa B V).length)=(zaa B V).length-1 by omega] at h1;exact Nat.lt_of_lt_of_le h1 (zmo hB (by omega))
theorem zdm {W:zA} {b g cap:Nat} {v:Value} {l:List Nat} (hb:Boxed W b 39 v) (hr:Row W g cap l):b≠g:=by
 rintro rfl;obtain⟨cur,h,_⟩:=hr;unfold Boxed at hb;rw[hb] at h;simp at h
theorem CellsKept.boxed {W W':zA} (h:CellsKept W W') {b:Nat} {t:TypeId} {v:Value} (hb:Boxed W b t v):Boxed W' b t v:=h _ _ _ _ hb
structure DivW (w:zA) (bs b4 b7 b8 g cap gq gv kv U V M:Nat) (v u Q:List Nat) (W:zA):Prop where
 bu:Boxed W b7 39 (.slice (some ⟨g,0,none⟩) U cap)
 bv:Boxed W b8 39 (.slice (some ⟨gv,0,none⟩) V kv)
 bq:Boxed W b4 39 (.slice (some ⟨gq,0,none⟩) M M)
 bb:Boxed W bs 39 (.slice (some ⟨gq,0,none⟩) M M)
 ru:Row W g cap u
 rq:Row W gq M Q
 rv:Row W gv kv v
 below:qL w W
section
variable {w:zA} {bs b4 b7 b8 g cap gq gv kv U V M:Nat} {v u Q:List Nat} {W W':zA}
theorem DivW.kept (h:DivW w bs b4 b7 b8 g cap gq gv kv U V M v u Q W) (hk:CellsKept W W') (hb:zB w.heap.size W W'):DivW w bs b4 b7 b8 g cap gq gv kv U V M v u Q W':=
 ⟨hk.boxed h.bu,hk.boxed h.bv,hk.boxed h.bq,hk.boxed h.bb,hk.row h.ru,hk.row h.rq,hk.row h.rv,h.below.trans hb⟩
theorem DivW.grow (h:DivW w bs b4 b7 b8 g cap gq gv kv U V M v u Q W) (hb:qL W W'):DivW w bs b4 b7 b8 g cap gq gv kv U V M v u Q W':=
 h.kept (zac hb) (hb.mono h.below.size)
theorem DivW.only (h:DivW w bs b4 b7 b8 g cap gq gv kv U V M v u Q W) {u':List Nat} (ho:Only g W W') (hr:Row W' g cap u') (h1:g≠gq) (h2:g≠gv) (h3:w.heap.size<=g):DivW w bs b4 b7 b8 g cap gq gv kv U V M v u' Q W':=
 ⟨(ho.block _ (Boxed.lt h.bu) (zdm h.bu h.ru)).trans h.bu,(ho.block _ (Boxed.lt h.bv) (zdm h.bv h.ru)).trans h.bv,(ho.block _ (Boxed.lt h.bq) (zdm h.bq h.ru)).trans h.bq,(ho.block _ (Boxed.lt h.bb) (zdm h.bb h.ru)).trans h.bb,
   hr,ho.row h.rq h1.symm,ho.row h.rv h2.symm,Only.below h.below (zN _) h3 ho⟩
theorem DivW.setQ (h:DivW w bs b4 b7 b8 g cap gq gv kv U V M v u Q W) (j q:Nat) (h1:g≠gq) (h2:gv≠gq) (h3:w.heap.size<=gq):DivW w bs b4 b7 b8 g cap gq gv kv U V M v u (Q.set j q) (W.setCell ⟨gq,j,none⟩ (I q)):=
 ⟨(yE W ⟨gq,j,none⟩ (I q) b7 (zdm h.bu h.rq)).trans h.bu,(yE W ⟨gq,j,none⟩ (I q) b8 (zdm h.bv h.rq)).trans h.bv,(yE W ⟨gq,j,none⟩ (I q) b4 (zdm h.bq h.rq)).trans h.bq,(yE W ⟨gq,j,none⟩ (I q) bs (zdm h.bb h.rq)).trans h.bb,
   h.ru.other (by exact h1) _,h.rq.set j q,h.rv.other (by exact h2) _,h.below.setCell (p:=⟨gq,j,none⟩) h3 _⟩
theorem DivW.setU (h:DivW w bs b4 b7 b8 g cap gq gv kv U V M v u Q W) (h1:b7≠b8) (h2:b7≠b4) (h3:b7≠bs) (h4:w.heap.size<=b7):DivW w bs b4 b7 b8 g cap gq gv kv U V M v u Q (W.setCell ⟨b7,0,none⟩ (.slice (some ⟨g,0,none⟩) U cap)):=
 ⟨by have:=h.bu;unfold Boxed at*;simp[World.setCell,Array.getElem?_modify,this],h.bv.other h1.symm _,h.bq.other h2.symm _,h.bb.other h3.symm _,
   h.ru.other (by exact(zdm h.bu h.ru).symm) _,h.rq.other (by exact(zdm h.bu h.rq).symm) _,h.rv.other (by exact(zdm h.bu h.rv).symm) _,h.below.setCell (p:=⟨b7,0,none⟩) h4 _⟩
end
theorem zke {g cap:Nat} {W W':zA} {l:List Nat} (h:Only g W W') (hr:Row W g cap l) (B:Nat):KeepsFrom B W W':=
 ⟨h.size,λk o _ hk ho=>by
   refine(h.block k (Array.getElem?_eq_some_iff.1 hk).1 λe=>?_).trans hk;obtain⟨cur,hg,_⟩:=hr;rw[e,hg] at hk;cases hk;cases ho⟩
theorem zts {w:zA} {base n:Nat} {v:Value} {l:List Nat} (h:w.ownsRow base 3 1 v n (l.map I)) (hn:0<n):∃g cap,v=.slice (some ⟨g,0,none⟩) n cap/\base<=g/\Row w g cap l/\l.length=n:=by
 have h':=h;obtain⟨hl,h⟩:=h;rcases h with⟨rfl,e⟩|⟨g,cap,cur,rfl,hb, -⟩
 ·rw[e] at hl;simp at hl;omega
 ·obtain⟨h1,h2⟩:=Row.of_own h'
  exact⟨g,cap,rfl,hb,h1,h2⟩
theorem zwi (W:zA) (r o:Nat) (ho:o=W.heap.size):Sl (W.alloc (.cells #[I r] 3)) (.slice (some ⟨o,0,none⟩) 1 1) ([r].map I):=
 ho▸Sl.mk (b:=W.heap.size) (off:=0) (cap:=1) (xs:=[I r]) (zN _) (λi x hx=>by
  match i,hx with
  |0,hx=>simp at hx;subst hx;simp)
theorem zo0 (va vb:Value) (a b:List Nat) (p:Nat) (w:zA) (ha:Sl w va (a.map I)) (hb:Sl w vb (b.map I)) (sa:zal B9 a) (sb:zal B9 b) (la:a.length<=1000) (lb:b.length<=1000) (hp:valL B9 a*valL B9 b=p) (h0:p≠0):
 zC zF 174 #[va,vb] w (λe w'=>∃g cap,e=.returned (.slice (some ⟨g,0,none⟩) (zaa B9 p).length cap)/\w.heap.size<=g/\Row w' g cap (zaa B9 p)/\zB w.heap.size w w'):=by
 refine(zox va vb a b w ha hb sa sb la lb).mono ?_;rintro e w' ⟨v,rfl,hown,hB⟩;rw[zjp (by decide) sa sb,hp] at hown;have hn:0<(zaa B9 p).length:=by
  rcases Nat.eq_zero_or_pos (zaa B9 p).length with e|e
  ·exact absurd ((zbd (by decide) p).1 (List.length_eq_zero_iff.1 e)) h0
  ·exact e
 obtain⟨g,cap,rfl,h1,h2,_⟩:=zts hown hn;exact⟨g,cap,rfl,h1,h2,hB⟩
theorem zwj (w:zA) (t:TypeId):∀(j:Nat) (u:Value),[I 0][j]? =some u->(w.alloc (.cells #[.int .i64 0] t)).cell? ((⟨w.heap.size,0,none⟩:Addr).add j)=some u:=zep w (.int .i64 0) t
theorem z06 (top f:Nat) (hf:f=B9/(top+1)):Value.int .i64 (1000000000/((top:Int)+1))=I f:=by
 subst hf;simp[I,B9]
theorem zwk (top f:Nat) (hf:f=B9/(top+1)) (h:1<=top):zal B9 [f]:=by
 intro x hx;simp at hx;subst hx;subst hf;have:B9/(top+1)<=B9/2:=Nat.div_le_div_left (by omega) (by omega);unfold B9 at*;omega
theorem zpt {m f:Nat} (h:f<B9):(zaa B9 (m*f)).length<=(zaa B9 m).length+1:=by
 refine zfv (by decide) ?_;rw[yO];exact Nat.mul_lt_mul'' (zgb (by decide) m) h
theorem hml0 {m n f:Nat} (h:1<=f):m*f/(n*f)=m/n/\m*f%(n*f)=m%n*f:=
 ⟨Nat.mul_div_mul_right _ _ (by omega),Nat.mul_mod_mul_right _ _ _⟩
theorem zss (va vb:Value) (m n:Nat) (w:zA) (ha:Sl w va ((zaa B9 m).map I)) (hb:Sl w vb ((zaa B9 n).map I)) (la:(zaa B9 m).length<=900) (lb:(zaa B9 n).length<=900) (l2:2<=(zaa B9 n).length) (h:n<=m):
 zC zF 130 #[va,vb] w (zju w (m/n) (m%n)):=by
 obtain⟨pa,ca,rfl, -⟩:=id ha;obtain⟨pb,cb,rfl, -⟩:=id hb;have HA:=hid ha;clear ha;have HB:=hid hb;simp only[zV] at*
 have hcmp:=λW h1 h2=>zi9 (.slice pa (zaa B9 m).length ca) (.slice pb (zaa B9 n).length cb) m n W h1 h2 (by omega) (by omega);have HC:=hid hcmp;clear hcmp;obtain⟨top,htop⟩:=zzX ((zaa B9 n)[(zaa B9 n).length-1]?.getD 0);obtain⟨bb,offb,rfl,hbb,hcapb,hcell⟩:=hb.at (i:=(zaa B9 n).length-1) (by omega);have htlt:top<B9:=by rw[htop];exact zaj (zak (by decide) n) (by decide) _
 rw[<-htop] at hcell;have HTOP:=hid htop;clear htop hb;obtain⟨i0,hi,hz0,hz1,hz2⟩:=info_parts zdv;obtain⟨f,hf⟩:=zzX (B9/(top+1));have hf1:1<=f:=by rw[hf,Nat.le_div_iff_mul_le (by omega)];omega
 obtain⟨lm,hlm⟩:=zzX ((zaa B9 m).length);obtain⟨ln,hln⟩:=zzX ((zaa B9 n).length);rw[<-hln] at l2 lb hcapb hcell HB HC⊢;rw[<-hlm] at la HA HC⊢;have HLM:=hid hlm;clear hlm;have HLN:=hid hln;clear hln;have HF:=hid hf;clear hf;have hlt2:((ln:Int)==1)=false:=by rw[beq_eq_false_iff_ne];omega
 have tt:top<1000000000:=htlt;have e1:((ln:Int)-1).toNat=ln-1:=by omega
 refine(callsIn_wide (n:=3)).1 ?_;refine callsIn_of_wp_marks Tryz.func130 rfl trivial ?_ rfl;simp only[Tryz.ntmps130,zZ,yA,List.length_nil,Nat.reduceAdd,Nat.reduceSub,Array.replicate_succ,Array.replicate_zero,List.push_toArray,List.append_toArray,yI,yM];gi_wp2_with (refine⟨trivial,?_⟩;gi_at_call 181;refine(callsIn_wide.2 (HC.out _ (HA.out.below ?c1) (HB.out.below ?c2))).mono ?_)
 case c1=>exact(zM _ _).alloc (zN _) _
 case c2=>exact(zM _ _).alloc (zN _) _
 rintro e w1 ⟨c,rfl,⟨hc1,hc2⟩,hB1⟩;have hcn:¬c<0:=λk=>by have:=hc1.1 k;omega
 have HLE:=hid h;clear hc1 hc2 h;rw[zH] at hB1;have bQ:Boxed w1 w.heap.size 39 (.slice none 0 0):=(hB1.block _ (by omega)).trans (Boxed.new w 39 (.slice none 0 0));have hB:qL w w1:=((zM _ w).alloc (zN _) _).trans (hB1.mono (by omega));have hcell1:=hcell;rw[<-hB.cell (p:=⟨bb,offb+(ln-1),none⟩) hbb] at hcell1;clear hB1 hcell;have HT:=hid htlt;clear htlt;have htop1:1<=top:=by
  have:=HTOP.out;rcases zg7 (B:=B9) (by decide) n with e|⟨i,x,e,hx⟩
  ·have:=HLN.out;rw[e] at this;simp at this;omega
  ·rw[e] at this;simp at this;omega
 have hm0:m*f≠0:=by
  have:=HLE.out;have h2:=HLN.out;have:n≠0:=λe=>by rw[e,zaz] at h2;simp at h2;omega
  exact Nat.mul_ne_zero (by omega) (by omega)
 have hn0:n*f≠0:=by
  have h2:=HLN.out;have:n≠0:=λe=>by rw[e,zaz] at h2;simp at h2;omega
  exact Nat.mul_ne_zero (by omega) (by omega)
 have ef:=z06 top f HF.out;have sf:=zwk top f HF.out htop1;have HM0:=hid hm0;have HN0:=hid hn0;have t1:=λW h1 h2=>zo0 (.slice pa lm ca) (.slice (some ⟨w1.heap.size,0,none⟩) 1 1) (zaa B9 m) [f] (m*f) W h1 h2 (zak (by decide) m) sf (by rw[<-HLM.out];omega) (by simp) (by rw[zam (by decide)];simp[valL]) hm0;have T1:=hid t1;have SF:=hid sf;clear t1 sf hm0 hn0;have EF:=hid ef;clear ef;gi_wp2_with (refine⟨trivial,?_⟩;gi_at_call 174;rw[EF.out];refine(callsIn_wide.2 (T1.out _ (HA.out.below (hB.alloc hB.size _)) (zwi _ _ _ rfl))).mono ?_);rintro e w2 ⟨gu,capu,rfl,hgu,hrowu,hB2⟩;rw[zH] at hgu hB2;have hBu:qL w w2:=(hB.alloc hB.size _).trans (hB2.mono (by have:=hB.size;simp;omega));have bQ2:Boxed w2 w.heap.size 39 (.slice none 0 0):=(hB2.block _ (by have:=Boxed.lt bQ;omega)).trans ((Below.heap_alloc _ _ _ (Boxed.lt bQ)).trans bQ);have hown:=(hrowu.alloc (.cells #[.int .i64 0] 3)).own (base:=w.heap.size) (by have:=hB.size;omega);have LU:=hid (show(zaa B9 (m*f)).length<=902 by have:=zpt (m:=m) (f:=f) (SF.out f (by simp));rw[<-HLM.out] at this;omega);have hlu:=LU.out;gi_wp2_with (gi_at_builtin;refine wpListIn_append_own _ rfl _ _ 39 rfl w.heap.size 3 i0 (.int .i64 0) 1 8 Tryz.underlying39 hi hz0 hz1 hz2 rfl (by decide) _ _ _ rfl hown ⟨w2.heap.size,0,none⟩ 1 1 [I 0] rfl rfl (zwj _ _) (zfn _) (by unfold maxLen;omega) (by omega) (by have:=hBu.size;simp;omega) ?_);intro v' w3 hown3 hgrow _
 have hB3:qL w w3:=(hBu.alloc hBu.size _).grown hgrow (by have:=hBu.size;simp;omega) (λq e=>(hown.lt q e).1);obtain⟨gu',capu',rfl,hgu',hrowu3,_⟩:=zts (l:=zaa B9 (m*f)++[0]) (by simpa using hown3) (by omega);have bQ3:Boxed w3 w.heap.size 39 (.slice none 0 0):=by
  have h1:=hgrow.block w.heap.size (by simp;have:=Boxed.lt bQ2;omega) (λe=>by
   have:=(hown.lt _ e.symm).2;simp[Value.ownBlock] at e;have:=hB.size;omega)
  exact h1.trans ((Below.heap_alloc _ _ _ (Boxed.lt bQ2)).trans bQ2)
 clear hown hown3 hgrow hrowu bQ bQ2;have t2:=λW h1 h2=>zo0 (.slice (some ⟨bb,offb,none⟩) ln cb) (.slice (some ⟨w3.heap.size,0,none⟩) 1 1) (zaa B9 n) [f] (n*f) W h1 h2 (zak (by decide) n) SF.out (by rw[<-HLN.out];omega) (by simp) (by rw[zam (by decide)];simp[valL]) HN0.out;have T2:=hid t2;clear t2;gi_wp2_with (refine⟨trivial,?_⟩;gi_at_call 174;refine(callsIn_wide.2 (T2.out _ (HB.out.below (hB3.alloc hB3.size _)) (zwi _ _ _ rfl))).mono ?_);rintro e w4 ⟨gv,capv,rfl,hgv,hrowv,hB4⟩;rw[zH] at hgv hB4;have hB5:qL w w4:=(hB3.alloc hB3.size _).trans (hB4.mono (by have:=hB3.size;simp;omega));have lu:=hrowu3.lt;have bQ4:Boxed w4 w.heap.size 39 (.slice none 0 0):=(hB4.block _ (by have:=Boxed.lt bQ3;omega)).trans ((Below.heap_alloc _ _ _ (Boxed.lt bQ3)).trans bQ3);have hrowu4:Row w4 gu' capu' (zaa B9 (m*f)++[0]):=(hrowu3.alloc _).below hB4 (by omega);have lv:=hrowv.lt;clear hB4 hrowu3 bQ3 hB3 hBu hB2;gi_wp2;have hVU:(zaa B9 (n*f)).length<=(zaa B9 (m*f)).length:=zd6 (by decide) (Nat.mul_le_mul_right f HLE.out);have hmU:lm<=(zaa B9 (m*f)).length:=by rw[HLM.out];exact zd6 (by decide) (Nat.le_mul_of_pos_right _ hf1)
 obtain⟨U,hU⟩:=zzX ((zaa B9 (m*f)).length);obtain⟨V,hV⟩:=zzX ((zaa B9 (n*f)).length);rw[<-hU] at hlu hVU hmU⊢;rw[<-hV] at hVU⊢;have HU:=hid hU;clear hU;have HV:=hid hV;clear hV;have bU:=(Boxed.new w4 39 (.slice (some ⟨gu',0,none⟩) (U+1) capu')).alloc (.cells #[.slice (some ⟨gv,0,none⟩) V capv] 39);have bV:=Boxed.new (w4.alloc (.cells #[.slice (some ⟨gu',0,none⟩) (U+1) capu'] 39)) 39 (.slice (some ⟨gv,0,none⟩) V capv);have bQ5:=(bQ4.alloc (.cells #[.slice (some ⟨gu',0,none⟩) (U+1) capu'] 39)).alloc (.cells #[.slice (some ⟨gv,0,none⟩) V capv] 39);have ru:=(hrowu4.alloc (.cells #[.slice (some ⟨gu',0,none⟩) (U+1) capu'] 39)).alloc (.cells #[.slice (some ⟨gv,0,none⟩) V capv] 39);have rv:=(hrowv.alloc (.cells #[.slice (some ⟨gu',0,none⟩) (U+1) capu'] 39)).alloc (.cells #[.slice (some ⟨gv,0,none⟩) V capv] 39);have hB6:=(hB5.alloc hB5.size (.cells #[.slice (some ⟨gu',0,none⟩) (U+1) capu'] 39)).alloc (by have:=hB5.size;simp;omega) (.cells #[.slice (some ⟨gv,0,none⟩) V capv] 39);rw[zH] at bV;have lq:=Boxed.lt bQ4;have lu4:=hrowu4.lt;clear bQ4 hrowu4 hrowv hB5 hB;obtain⟨z,hz⟩:=zzX w4.heap.size;rw[<-hz] at bU bV lv lq lu4⊢;clear hz;generalize (w4.alloc (.cells #[.slice (some ⟨gu',0,none⟩) (U+1) capu'] 39)).alloc (.cells #[.slice (some ⟨gv,0,none⟩) V capv] 39)=W5 at*
 obtain⟨M,hM⟩:=zzX (U+1-V);have hMi:(U:Int)+1-V=M:=by omega
 obtain⟨W6,hmk,rq,hB7⟩:=zg2 W5 w.heap.size M (by have:=hB6.size;omega) (by omega);rw[<-hMi] at hmk;have HMI:=hid hMi;clear hMi;have HM:=hid hM;clear hM;have cu:=bU.cell;have cv:=bV.cell;have bQ6:Boxed W6 w.heap.size 39 (.slice none 0 0):=(hB7.block _ (Boxed.lt bQ5)).trans bQ5;have bU6:Boxed W6 z 39 (.slice (some ⟨gu',0,none⟩) (U+1) capu'):=(hB7.block _ (Boxed.lt bU)).trans bU;have bV6:Boxed W6 (z+1) 39 (.slice (some ⟨gv,0,none⟩) V capv):=(hB7.block _ (Boxed.lt bV)).trans bV;have ru6:=ru.below hB7 ru.lt;have rv6:=rv.below hB7 rv.lt;have hB8:qL w W6:=hB6.trans (hB7.mono hB6.size);have lz:=Boxed.lt bV;clear bQ5 bU bV ru rv hB7;have cq6:=bQ6.cell;have fq6:=bQ6.frozen;gi_loopw [] (λwr=>wr=W5) (λ_=>0)
 case atStart=>rfl
 case round=>
 subst hrel;have CU:=hid cu;gi_wp2_with (refine⟨trivial,?_⟩;gi_at_call 199;refine(callsIn_wide.2 (zhu _ _ _ _ _ rfl)).mono ?_;rintro e w' ⟨rfl,rfl⟩);have hd:=zwh (B:=B9) (by decide) (Nat.pos_of_ne_zero HN0.out) (Nat.mul_le_mul_right f HLE.out);rw[<-HU.out,<-HV.out,<-HM.out] at hd;have hW7:DivW w W6.heap.size w.heap.size z (z+1) gu' capu' wr.heap.size gv capv (U+1) V M (zaa B9 (n*f)) (zaa B9 (m*f)++[0]) (List.replicate M 0)
  ((W6.setCell ⟨w.heap.size,0,none⟩ (.slice (some ⟨wr.heap.size,0,none⟩) M M)).alloc (.cells #[.slice (some ⟨wr.heap.size,0,none⟩) M M] 39)):=by
  have hs:(W6.setCell ⟨w.heap.size,0,none⟩ (.slice (some ⟨wr.heap.size,0,none⟩) M M)).heap.size=W6.heap.size:=by simp[World.setCell]
  have l1:=Boxed.lt bQ6;refine⟨(bU6.other (by omega) _).alloc _,(bV6.other (by omega) _).alloc _,Boxed.alloc ?_ _,?_,(ru6.other (by exact(zdm bQ6 ru6).symm) _).alloc _,(rq.other (by exact(zdm bQ6 rq).symm) _).alloc _,(rv6.other (by exact(zdm bQ6 rv6).symm) _).alloc _,?_⟩
  ·unfold Boxed at*;simp[World.setCell,Array.getElem?_modify,bQ6]
  ·have:=Boxed.new (W6.setCell ⟨w.heap.size,0,none⟩ (.slice (some ⟨wr.heap.size,0,none⟩) M M)) 39 (.slice (some ⟨wr.heap.size,0,none⟩) M M)
   rw[hs] at this;exact this
  ·exact(hB8.setCell (p:=⟨w.heap.size,0,none⟩) (by simp) _).alloc (by rw[hs];exact hB8.size) _
 have hs8:(W6.setCell ⟨w.heap.size,0,none⟩ (.slice (some ⟨wr.heap.size,0,none⟩) M M)).heap.size=W6.heap.size:=by simp[World.setCell]
 have hbs:=rq.lt;have hV2:2<=V:=by
  have h1:=zd6 (B:=B9) (by decide) (Nat.le_mul_of_pos_right n hf1);rw[<-HLN.out,<-HV.out] at h1;omega
 have hVl:=HV.out;have hUl:=HU.out;have hMl:=HM.out;have hml:=hml0 (m:=m) (n:=n) (f:=f) hf1;clear hB6 hmk rq CU cu cv cq6 fq6 bQ6 bU6 bV6 ru6 rv6 hB8 hs8 hcell1 T1 T2 EF HT HC HA HB HTOP HLM HLN LU htop1;generalize (W6.setCell ⟨w.heap.size,0,none⟩ (.slice (some ⟨wr.heap.size,0,none⟩) M M)).alloc (.cells #[.slice (some ⟨wr.heap.size,0,none⟩) M M] 39)=W8 at*
 generalize W6.heap.size=bs at*
 generalize wr.heap.size=gq at*
 have hVn:V=(zaa B9 (n*f)).length:=HV.out;have hUn:U=(zaa B9 (m*f)).length:=HU.out;have hMn:M=U+1-V:=HM.out;have sv:=zak (B:=B9) (by decide) (n*f);have hvt:0<(zaa B9 (n*f))[V-2+1]?.getD 0:=by
  rcases zg7 (B:=B9) (by decide) (n*f) with e|⟨i,x,e,hx⟩
  ·rw[e] at hVn;simp at hVn;omega
  ·rw[e] at hVn⊢
   simp at hVn;rw[show V-2+1=i.length by omega];simp;omega
 obtain⟨v,hv⟩:=zzX (zaa B9 (n*f));rw[<-hv] at sv hvt hd hW7 hVn;have HVV:=hid hv;clear hv;obtain⟨u0,hu0⟩:=zzX (zaa B9 (m*f)++[0]);rw[<-hu0] at hd hW7;have hu0l:u0.length=U+1:=by rw[hu0];simp;omega
 have HU0:=hid hu0;clear hu0;have HD:=hid hd;clear hd;have HW:=hid hW7;have hMV:M+V=U+1:=by omega
 have hguv:gu'<gv:=by omega
 have hM3:M<=903:=by omega
 have HMV:=hid hMV;have HVN:=hid hVn;clear hVn;have HUL0:=hid hu0l;clear hu0l;clear HV HU HM hVl hUl hMl hMn hUn HMI hMV hi hz0 hz1 hz2 i0 hcapb lb l2 hlt2 tt e1 hcn HM0 hgu hgv lu
 refine zkt bs M M (some ⟨gq,0,none⟩) (λ_ _=>True) (λW=>W.cell? ⟨bs,0,none⟩=some (.slice (some ⟨gq,0,none⟩) M M)/\∃Q,Q.length=M/\Row W gq M Q) (by omega)
  (λW h=>⟨h.1,λi hi=>by
    obtain⟨Q,hQ,hr⟩:=h.2;exact⟨gq,0,_,rfl,trivial,by rw[Nat.zero_add];exact hr.cell (getD_some (by omega))⟩⟩) rfl rfl (B:=w.heap.size) hW7.below.size
  (λk W=>∃u Q,DivAt B9 u0 v M (M-k) u Q/\DivW w bs w.heap.size z (z+1) gu' capu' gq gv capv (U+1) V M v u Q W)
  (λ_ _ _=>False)
  (λk W W' h hk hb=>let ⟨u,Q,h1,h2⟩:=h;⟨u,Q,h1,h2.kept hk hb⟩) (λ_ _ _ _ h _ _=>h)
  (λk W h=>let ⟨u,Q,h1,h2⟩:=h;⟨h2.bb.cell,Q,h1.ql,h2.rq⟩)
  ⟨_,_,HD.out,HW.out⟩ ?a1 ?assign ?body ?done ?stop
 case stop=>exact λ_ _ _ _ _ h _=>h.elim
 case assign=>
  intro l j x W K hK;gi_wp2;exact hK
 case body=>
  rintro l k j x W hl hlr ⟨u,Q,hd,hW⟩ hk hj-
  have hj1:M-k=j+1:=by omega
  have hjM:j<M:=by omega
  rw[hj1] at hd;have hul:u.length=U+1:=by rw[hd.ul,HUL0.out]
  have hjb:j+v.length+1<=u.length:=by rw[hul,<-HVN.out];have:=HMV.out;omega
  have est:=λW hru hrv=>zqy gu' capu' gv capv u v j (V-2) W hru hrv hd.us sv (by have:=HVN.out;omega) hjb (by omega) (by have:=HVN.out;omega) (hd.below (by decide) (by omega)) hvt;rw[hul,<-HVN.out] at est;have EST:=hid est;clear est;have HD:=hid hd;clear hd;have HJ1:=hid hj1;clear hj1 hj;have HUL:=hid hul;clear hul;have HJB:=hid hjb;clear hjb;have hlr':=hlr;have cu:=hW.bu.cell;have cv:=hW.bv.cell;gi_wp2_with (refine⟨trivial,?_⟩;gi_at_call 200;refine(CallsIn.inRound l (callsIn_wide.2 (EST.out _ hW.ru hW.rv))).mono ?_);rintro e W1 ⟨q0,rfl,hq1,hq2,hbe⟩;have hW1:=hW.grow hbe;have kW1:=(za0 hbe).from W8.heap.size;clear hbe cu cv hW;have HQ1:=hid hq1;clear hq1;have HQ2:=hid hq2;clear hq2;have HW1:=hid hW1;have KW1:=hid kW1;clear kW1 hW1;gi_wp2;gi_loopw [10] (λt wr=>∃q,t=I q/\Hid (valL B9 (u.drop j)/valL B9 v<=q)/\Hid (q<=2*B9)/\Hid (DivW w bs w.heap.size z (z+1) gu' capu' gq gv capv (U+1) V M v u Q wr)/\Hid (KeepsFrom W8.heap.size W wr))
   (λt _=>(zL t).toNat)
  case atStart=>exact⟨q0,rfl,HQ1.out,HQ2.out,HW1.out,KW1.out⟩
  case round=>
   clear HQ1 HQ2 HW1 KW1;obtain⟨q,rfl,hq1,hq2,hWr,hKr⟩:=hrel;have bu:=hWr.out.bu;have bv:=hWr.out.bv;have cu:=bu.cell;have cv:=bv.cell;have fu:=bu.frozen;have tk:=zyv gu' capu' u v (.slice (some ⟨gv,0,none⟩) V capv) j q wr hWr.out.ru (λW' ho=>by rw[HVN.out];exact(ho.row hWr.out.rv (by omega)).sl) HD.out.us sv HJB.out (by have:=HUL.out;omega) (by have:=HVN.out;omega) hq2.out;rw[HUL.out] at tk;have TK:=hid tk;clear tk;have tsp:=zej (B:=B9) (by decide) (q:=q) sv j HD.out.us (v.length+1) HJB.out;have stp:=zoz (B:=B9) (by decide) (q:=q) HD.out.us sv HJB.out (HD.out.below (by decide) (by have:=HJB.out;omega));have TSP:=hid tsp;clear tsp;have STP:=hid stp;clear stp;gi_wp2_with (refine⟨trivial,?_⟩;gi_at_call 201;refine(CallsIn.inRound l (callsIn_wide.2 TK.out)).mono ?_);rintro e W2 ⟨rfl,hru2,ho2⟩;have hW2:=hWr.out.only ho2 hru2 (by omega) (by omega) (by omega);have kW2:=hKr.out.trans (zke ho2 hWr.out.ru W8.heap.size);clear bu bv cu cv fu;have bu:=hW2.bu;have bv:=hW2.bv;have cu:=bu.cell;have cv:=bv.cell;have fu:=bu.frozen;have HW2:=hid hW2;clear hW2;have KW2:=hid kW2;clear kW2;have HRU2:=hid hru2;clear hru2 ho2;by_cases hcar:0<(zba B9 q v j u (v.length+1)).2
   ·have rs:=zsp gu' capu' (zba B9 q v j u (v.length+1)).1 v (.slice (some ⟨gv,0,none⟩) V capv) j q W2 HRU2.out (λW' ho=>by rw[HVN.out];exact(ho.row HW2.out.rv (by omega)).sl) TSP.out.2.1 sv (by rw[TSP.out.1];exact HJB.out) (by rw[TSP.out.1];have:=HUL.out;omega) (by have:=HVN.out;omega) hq2.out
    rw[TSP.out.1,HUL.out,zwe (by decide) sv HD.out.us (v.length+1) (by have:=HJB.out;omega)] at rs;have RS:=hid rs;clear rs;have hlt:=STP.out.2 (by omega);have hd1:decide (0<(zba B9 q v j u (v.length+1)).2)=true:=by simpa using hcar
    have HQL:=hid ((Nat.div_lt_iff_lt_mul (Nat.lt_of_le_of_lt (zR _) HD.out.high)).2 hlt);clear hlt;rw[hd1];clear hd1 hcar;have hq0:0<q:=Nat.lt_of_le_of_lt (zR _) HQL.out;gi_wp2_with (refine⟨trivial,?_⟩;gi_at_call 202;refine(CallsIn.inRound l (callsIn_wide.2 RS.out)).mono ?_);rintro e W3 ⟨rfl,hru3,ho3⟩;have hW3:=HW2.out.only ho3 hru3 (by omega) (by omega) (by omega);have kW3:=KW2.out.trans (zke ho3 HRU2.out W8.heap.size);clear bu bv cu cv fu;have bu:=hW3.bu;have cu:=bu.cell;have fu:=bu.frozen;have HW3:=hid hW3;clear hW3;have KW3:=hid kW3;clear kW3 hru3 ho3;have hq3:q<=2000000000:=hq2.out;gi_wp2;go_roundw
    case rel=>exact⟨q-1,by show Value.int .i64 _=Value.int .i64 _;congr 1;omega,Nat.le_sub_one_of_lt HQL.out,Nat.le_trans (Nat.sub_le _ _) hq2.out,HW3.out.setU (by omega) (by omega) (by omega) (by omega),KW3.out.trans ((KeepsOthers.setCell _ _ _).from _)⟩
    case measure=>simp[zL];omega
   ·have hd1:decide (0<(zba B9 q v j u (v.length+1)).2)=false:=by simpa using hcar
    have hst:=HD.out.step (by decide) sv hjM HJB.out hq1.out (by omega);have HST:=hid hst;clear hst;rw[hd1];clear hd1 hcar;have bq:=HW2.out.bq;have cq:=bq.cell;have hqc:=HW2.out.rq.cell (getD_some (show j<Q.length by rw[HD.out.ql];exact hjM));have hqf:=HW2.out.rq.frozen j;gi_wp2;refine⟨KW2.out.trans ((KeepsOthers.setCell _ _ _).from _),_,_,?_,HW2.out.setQ j q (by omega) (by omega) (by omega)⟩;rw[show M-(k+1)=j by have:=HJ1.out;omega];exact HST.out.1
 case done=>
  rintro D W hD ⟨u,Q,hd,hW⟩ hK;rw[Nat.sub_self] at hd;have hout:=hd.out;rw[HVV.out,HU0.out,zam (by decide),zcm,Nat.mul_zero,Nat.add_zero,zam (by decide),hml.1,hml.2] at hout;have bu:=hW.bu;have bq:=hW.bq;have cu:=bu.cell;have cq:=bq.cell;have fq:=bq.frozen;have hsu:=hW.ru.sl;have hul:u.length=U+1:=by rw[hd.ul,HUL0.out]
  rw[hul] at hsu;have htr:=λW' h=>zi6 (some ⟨gu',0,none⟩) (U+1) capu' u W' h (by omega);rw[zbu (by decide) hd.us,hout.2] at htr;have HTR:=hid htr;clear htr;have HQ:=hid hW;clear hW;have HD:=hid hd;clear hd;have HO:=hid hout;clear hout;have HK:=hid hK;clear hK;gi_wp2_with (refine⟨trivial,?_⟩;gi_at_call 180;refine(callsIn_wide.2 (HTR.out _ hsu)).mono ?_);rintro e w9 ⟨rfl,rfl⟩;have hsl9:=HQ.out.ru.sl.trim;rw[zbu (by decide) HD.out.us,HO.out.2] at hsl9;have hfs:=SF.out f (by simp);have hsh:=λh=>zoy (.slice (some ⟨gu',0,none⟩) (zaa B9 (m%n*f)).length capu') (zaa B9 (m%n*f)) f W h (by have:=zkn u;rw[zbu (by decide) HD.out.us,HO.out.2] at this;omega) (zak (by decide) _) hf1 hfs;rw[zam (by decide),Nat.mul_div_cancel _ hf1] at hsh;have HSH:=hid (hsh hsl9);clear hsh hsl9 hfs;gi_wp2_with (refine⟨trivial,?_⟩;gi_at_call 198;refine(callsIn_wide.2 HSH.out).mono ?_);clear HSH;rintro e w10 ⟨v1,v2,rfl,hs1,hs2,hB10⟩;have hW10:=HQ.out.grow hB10;have hK10:=(hB10.block D (Array.getElem?_eq_some_iff.1 HK.out).1).trans HK.out;obtain⟨p1,c1,e1, -⟩:=id hs1;obtain⟨p2,c2,e2, -⟩:=id hs2;generalize (List.map I (zaa B9 (m%n))).length=n1 at e1;generalize (List.map I (zaa B9 (m%n*f%f))).length=n2 at e2;subst e1 e2;have HS1:=hid hs1;clear hs1 hs2 bu bq cu cq fq hB10;have hqs:=hW10.rq.sl;have hql:=HD.out.ql;rw[hql] at hqs;have htr:=zi6 (some ⟨gq,0,none⟩) M M Q w10 hqs (by omega);rw[zbu (by decide) HD.out.qs,HO.out.1] at htr;have HTQ:=hid htr;clear htr hqs hql;have bq:=hW10.bq
  have cq:=bq.cell;have fq:=bq.frozen;have HW10:=hid hW10;clear hW10;have HK10:=hid hK10;clear hK10;gi_wp2_with (refine⟨trivial,?_⟩;gi_at_call 180;refine(callsIn_wide.2 HTQ.out).mono ?_);rintro e w11 ⟨rfl,rfl⟩;clear HTQ;gi_wp2;have hK11:=(KeepsOthers.setCell w10 ⟨w.heap.size,0,none⟩ (.slice (some ⟨gq,0,none⟩) (zaa B9 (m/n)).length M)).same D _ HK10.out rfl;refine⟨by simp,.inl ⟨_,_,rfl,run_takeDeferred hK11,?_⟩⟩;have hc5:=(zbk hK11).cell (za9 cq);have hsq:=HW10.out.rq.sl;rw[HD.out.ql] at hsq;have hsq:=Sl.trim (l:=Q) (by rw[HD.out.ql];exact hsq);rw[zbu (by decide) HD.out.qs,HO.out.1] at hsq
  exact⟨.tuple #[.slice (some ⟨gq,0,none⟩) (zaa B9 (m/n)).length M,.slice p1 n1 c1],by simp[results,Tryz.f130,go_sem,hc5],_,_,rfl,(zbk hK11).sl (hsq.box cq _),(zbk hK11).sl (HS1.out.box cq _),
   zby (HW10.out.below.setCell (p:=⟨w.heap.size,0,none⟩) (by simp) _) (by have:=hW7.below.size;omega) hK11⟩
theorem znf (va vb:Value) (m n:Nat) (w:zA) (ha:Sl w va ((zaa B9 m).map I)) (hb:Sl w vb ((zaa B9 n).map I)) (la:(zaa B9 m).length<=900) (lb:(zaa B9 n).length<=900) (h0:n≠0):
 zC zF 130 #[va,vb] w (zju w (m/n) (m%n)):=by
 rcases Nat.lt_or_ge m n with h|h
 ·exact zsq va vb m n w ha hb (by omega) (by omega) h
 ·have hl:(zaa B9 n).length≠0:=λe=>h0 ((zbd (by decide) n).1 (List.length_eq_zero_iff.1 e))
  rcases Nat.lt_or_ge (zaa B9 n).length 2 with h2|h2
  ·exact zur va vb m n w ha hb (by omega) (by omega) h
  ·exact zss va vb m n w ha hb la lb h2 h
end Go.Proofs.YtfoodcpnnmonhaaGreatDoor
namespace Go.Proofs.YtfoodcpnnmonhaaGreatDoor.Limb
open Go.Lib Str
def digL (l:List UInt8):List Nat:=(l.map λc=>c.toNat-48).reverse
theorem zmr:∀(l:List UInt8) (a:Nat),l.foldl (λa c=>10*a+(c.toNat-48)) a=valL 10 (digL l)+10^l.length*a
 |[],a=>by simp[digL,valL]
 |c::r,a=>by
  rw[List.foldl_cons,zmr r];unfold digL;rw[List.map_cons,List.reverse_cons,zcm];simp only[List.length_reverse,zV,yA,yO,Nat.mul_add];rw[Nat.mul_assoc];omega
theorem zyx (n:Nat):valL 10 (digL (zD n))=n:=by
 have:=zmr (zD n) 0;rw[Nat.mul_zero,Nat.add_zero] at this;rw[<-this];exact zb2 n
theorem zfi (l:List UInt8):(digL l).length=l.length:=by simp[digL]
theorem zfz {l:List UInt8} (h:∀c∈l,48<=c.toNat/\c.toNat<=57):zal 10 (digL l):=by
 intro x hx;simp only[digL,List.mem_reverse,List.mem_map] at hx;obtain⟨c,hc,rfl⟩:=hx;have:=h c hc;omega
theorem z07 (l:List UInt8) (i:Nat) (h:i<l.length):(digL l)[i]?.getD 0=(l[l.length-1-i]'(by omega)).toNat-48:=by
 unfold digL;rw[List.getElem?_reverse (by simpa using h)];simp[show l.length-1-i<l.length by omega]
def zb8 (p:Nat) (ds:List Nat) (m:Nat):Nat->List Nat
 |0=>List.replicate m 0
 |k+1=>(zb8 p ds m k).set (k/p) ((zb8 p ds m k)[k/p]?.getD 0+ds[k]?.getD 0*10^(k%p))
theorem zpu (p k:Nat):(10^p)^(k/p)*10^(k%p)=10^k:=by
 rw[<-Nat.pow_mul,<-Nat.pow_add,Nat.div_add_mod]
theorem zyy {p k:Nat} (hp:0<p):((k+1)/p=k/p/\(k+1)%p=k%p+1/\k%p+1<p)\/((k+1)/p=k/p+1/\(k+1)%p=0/\k%p+1=p):=by
 have h1:=Nat.div_add_mod k p;have h2:=Nat.mod_lt k hp;by_cases h:k%p+1<p
 ·left
  have e:k+1=(k%p+1)+p*(k/p):=by omega
  refine⟨?_,?_,h⟩
  ·rw[e,Nat.add_mul_div_left _ _ hp,Nat.div_eq_of_lt h,Nat.zero_add]
  ·rw[e,Nat.add_mul_mod_self_left,zQ h]
 ·right
  have h3:k%p+1=p:=by omega
  have e:k+1=p*(k/p+1):=by rw[Nat.mul_add,Nat.mul_one];omega
  refine⟨?_,?_,h3⟩
  ·rw[e,Nat.mul_div_cancel_left _ hp]
  ·rw[e,Nat.mul_mod_right]
theorem zgp {p:Nat} (hp:0<p) {ds:List Nat} (hd:zal 10 ds) {m:Nat} (hm:ds.length<=p*m):∀k,k<=ds.length->
 (zb8 p ds m k).length=m/\zal (10^p) (zb8 p ds m k)/\valL (10^p) (zb8 p ds m k)=valL 10 (ds.take k)/\(zb8 p ds m k)[k/p]?.getD 0<10^(k%p)/\∀i,k/p<i->(zb8 p ds m k)[i]?.getD 0=0
 |0,_=>by
  have hz:∀i,(List.replicate m 0)[i]?.getD 0=0:=λi=>by rw[List.getElem?_replicate];split<;>rfl
  refine⟨by simp[zb8],λx hx=>?_,?_,?_,λi _=>hz i⟩
  ·simp only[zb8,List.mem_replicate] at hx
   rw[hx.2];exact Nat.pow_pos (by omega)
  ·rw[List.take_zero];exact zgd _ _
  ·show(List.replicate m 0)[_]?.getD 0<_
   rw[hz];exact Nat.pow_pos (by omega)
 |k+1,hk=>by
  obtain⟨h1,h2,h3,h4,h5⟩:=zgp hp hd hm k (by omega);have hkm:k/p<m:=by rw[Nat.div_lt_iff_lt_mul hp,yP];omega
  have hds:=zaj hd (by omega) k;have hv:=zgc (10^p) (zb8 p ds m k) (k/p) ((zb8 p ds m k)[k/p]?.getD 0+ds[k]?.getD 0*10^(k%p)) (by omega);have hpw:=zpu p k;have htk:=zbo ds k 10;have hnew:(zb8 p ds m k)[k/p]?.getD 0+ds[k]?.getD 0*10^(k%p)<10^(k%p+1):=by
   rw[yO];have:=Nat.mul_le_mul_right (10^(k%p)) (show ds[k]?.getD 0<=9 by omega);omega
  have hnew2:10^(k%p+1)<=10^p:=yF (by omega) (Nat.mod_lt _ hp);refine⟨by simp[zb8,h1],zfm h2 _ (by omega),?_,?_,?_⟩
  ·show valL (10^p) ((zb8 p ds m k).set _ _)=_
   rw[htk,<-h3,<-hpw];rw[Nat.mul_add] at hv;have:(10^p)^(k/p)*(ds[k]?.getD 0*10^(k%p))=(10^p)^(k/p)*10^(k%p)*ds[k]?.getD 0:=by
    rw[Nat.mul_assoc,yP (ds[k]?.getD 0)]
   omega
  ·show((zb8 p ds m k).set _ _)[_]?.getD 0<_
   rcases zyy (k:=k) hp with⟨e1,e2,_⟩|⟨e1,e2,_⟩
   ·rw[e1,e2,List.getElem?_set_self (by omega)];exact hnew
   ·rw[e1,e2,List.getElem?_set_ne (by omega),h5 _ (by omega)];exact Nat.pow_pos (by omega)
  ·intro i hi
   show((zb8 p ds m k).set _ _)[_]?.getD 0=_;have:k/p<=(k+1)/p:=Nat.div_le_div_right (by omega);rw[List.getElem?_set_ne (by omega),h5 _ (by omega)]
theorem zus {p:Nat} (hp:0<p) (n m:Nat) (hm:(zD n).length<=p*m):zat (zb8 p (digL (zD n)) m (zD n).length)=zaa (10^p) n:=by
 obtain⟨h1,h2,h3, -⟩:=zgp hp (zfz (zan n)) (m:=m) (by rw[zfi];exact hm) (digL (zD n)).length (zN _);rw[List.take_length,zyx] at h3;rw[zfi] at h2 h3;rw[zbu (Nat.le_trans (show 2<=10^1 by omega) (yF (by omega) hp)) h2,h3]
def padD:Nat->Nat->List UInt8
 |0,_=>[]
 |k+1,x=>padD k (x/10)++[UInt8.ofNat (48+x%10)]
theorem zph:∀k x,(padD k x).length=k
 |0,_=>rfl
 |k+1,x=>by simp[padD,zph k]
theorem ztt:∀(k y x:Nat),0<y->x<10^k->zD (10^k*y+x)=zD y++padD k x
 |0,y,x,hy,hx=>by simp at hx;subst hx;simp[padD]
 |k+1,y,x,hy,hx=>by
  have e:10^(k+1)*y+x=10*(10^k*y+x/10)+x%10:=by
   rw[yO,yP (10^k) 10,Nat.mul_add,Nat.mul_assoc];omega
  have hx':x/10<10^k:=by rw[yO] at hx;omega
  have hp:0<10^k*y:=Nat.mul_pos (Nat.pow_pos (by omega)) hy;rw[e,zi4 (by omega) (by omega),ztt k y _ hy hx',padD,yL]
theorem zo1:∀k,padD k 0=List.replicate k 48
 |0=>rfl
 |k+1=>by
  rw[padD,Nat.zero_div,zo1 k,List.replicate_succ'];rfl
theorem zjv:∀(k x:Nat),0<k->x<10^k->padD k x=List.replicate (k-(zD x).length) 48++zD x
 |k+1,x,_,hx=>by
  rw[padD];by_cases h:x<10
  ·rw[zae h,Nat.div_eq_of_lt h,zo1,zQ h];simp
  ·rw[zav (by omega)]
   have hx':x/10<10^k:=by rw[yO] at hx;omega
   have hk:0<k:=by
    rcases Nat.eq_zero_or_pos k with rfl|h
    ·simp at hx;omega
    ·exact h
   rw[zjv k (x/10) hk hx',zU,List.length_singleton,show k+1-((zD (x/10)).length+1)=k-(zD (x/10)).length by omega,yL]
theorem zut {p:Nat} {l:List Nat} (hl:zal (10^p) l) (k:Nat) (hk:k<l.length) (h0:0<valL (10^p) (l.drop (k+1))):
 zD (valL (10^p) (l.drop k))=zD (valL (10^p) (l.drop (k+1)))++padD p (l[k]?.getD 0):=by
 rw[zdu l k _ hk,Nat.add_comm,ztt p _ _ h0 (hl _ (List.getElem_mem hk))];simp[hk]
theorem zpv {B:Nat} (hB:2<=B) {n k:Nat} (hk:k<(zaa B n).length):0<valL B ((zaa B n).drop k):=by
 rcases zg7 hB n with h|⟨i,x,h,hx⟩
 ·rw[h] at hk;simp at hk
 ·rw[h] at hk⊢
  rw[zU,List.length_singleton] at hk;rw[List.drop_append_of_le_length (by omega),zcm];have:0<B^(i.drop k).length*x:=Nat.mul_pos (Nat.pow_pos (by omega)) (by omega);omega
end Go.Proofs.YtfoodcpnnmonhaaGreatDoor.Limb
namespace Go.Proofs.YtfoodcpnnmonhaaGreatDoor
open Go.RowKit Lib Str
theorem zhx {x:Int} (h:0<=x):Lib.hasPrefix (zE x) [45]=false:=by
 obtain⟨c,r,e,h1,_⟩:=dec_head x.natAbs;rcases zbg x with⟨_,e2⟩|⟨h2,_⟩
 ·rw[e2,e]
  have:c≠45:=λh=>by rw[h] at h1;simp at h1
  simp only[Lib.hasPrefix,List.isPrefixOf,Bool.and_true];exact beq_eq_false_iff_ne.2 (Ne.symm this)
 ·omega
theorem zkf {x:Int} (h:x<0):Lib.hasPrefix (zE x) [45]=true:=by
 rcases zbg x with⟨h2,_⟩|⟨_,e2⟩
 ·omega
 ·rw[e2];simp[Lib.hasPrefix]
theorem zdx (x:Int):Lib.hasPrefix (zE x) [45]=decide (x<0):=by
 by_cases h:x<0
 ·rw[zkf h];simp[h]
 ·rw[zhx (by omega)];simp[h]
theorem zbi (x:Int):Lib.trimPrefix (zE x) [45]=zD x.natAbs:=by
 unfold Lib.trimPrefix;rcases zbg x with⟨h,e⟩|⟨h,e⟩
 ·rw[zhx h,e];simp
 ·rw[zkf h,e];simp
theorem zkg {α:Type} (p:α->Bool):∀l:List α,(∀x∈l,p x=true)->l.dropWhile p=[]
 |[],_=>rfl
 |a::r,h=>by rw[List.dropWhile_cons,if_pos (h a (by simp))];exact zkg p r λx hx=>h x (by simp[hx])
theorem zku (l:List UInt8) (h:∀c∈l,48<=c.toNat/\c.toNat<=57):Lib.trimS l [48,49,50,51,52,53,54,55,56,57]=[]:=by
 have hc:∀c∈l,([48,49,50,51,52,53,54,55,56,57]:List UInt8).contains c=true:=by
  intro c hcl;obtain⟨h1,h2⟩:=h c hcl;obtain⟨k,hk,rfl⟩:∃k,k<10/\c=UInt8.ofNat (48+k):=⟨c.toNat-48,by omega,by rw[show 48+(c.toNat-48)=c.toNat by omega];exact UInt8.ofNat_toNat.symm⟩;have:∀k:Fin 10,([48,49,50,51,52,53,54,55,56,57]:List UInt8).contains (UInt8.ofNat (48+k.val))=true:=by decide
  exact this ⟨k,hk⟩
 have e:l.reverse.dropWhile (([48,49,50,51,52,53,54,55,56,57]:List UInt8).contains ·)=[]:=
  zkg _ _ λc hcl=>hc c (List.mem_reverse.1 hcl)
 unfold trimS trimRightS trimLeftS;rw[e];rfl
theorem zkv {n:Nat} {c:UInt8} {r:List UInt8} (h:zD n=c::r) (hc:(c.toNat:Int)=48):n=0:=
 zmm n (by rw[h];have:c=48:=UInt8.toNat_inj.1 (by simp;omega);rw[this];rfl)
theorem ba0 (c:UInt8) (r:List UInt8) (h:0<(⟨(c::r).toArray⟩:ByteArray).size):(⟨(c::r).toArray⟩:ByteArray)[0]'h=c:=rfl
theorem zst (x:Int) (hx:x≠0) (hl:digs x<=300) (_:digs x<=1000000) (w:zA):
 qJ 178 #[St (zE x)] w (.int .i64 0):=by
 have h1:=zbi x;have h2:=zku _ (zan x.natAbs);have h3:digs x=(zD x.natAbs).length:=rfl;obtain⟨c,r,hd,hc1,hc2⟩:=dec_head x.natAbs;have hb:(c.toNat:Int)≠48:=λh=>by have:=zkv hd h;omega
 rw[hd] at h1 h2 h3;obtain⟨s,hs⟩:=zzX (⟨(c::r).toArray⟩:ByteArray);have hz:s.size=r.length+1:=by rw[hs];show(c::r).toArray.size=_;simp
 have h0:0<s.size:=by omega
 have hne:s.toList.isEmpty=false:=by rw[ByteArray.toList_eq,hs];simp
 have hb:(((s[0]'h0).toNat:Int)==48)=false:=by
  rw[beq_eq_false_iff_ne];subst hs;exact hb
 have hl':(s.size:Int)<=300:=by simp at h3;omega
 have hlen:(s.size:Int)<=1000000:=by simp at h3;omega
 have H1:Hid (⟨(trimPrefix (zE x) [45]).toArray⟩=s):=hid (by rw[h1,hs]);have H2:Hid (trimS s.data.toList [48,49,50,51,52,53,54,55,56,57]=[]):=hid (by rw[hs];exact h2);clear h1 h2 h3 hd hl hs hz;go_enter Tryz.func178,Tryz.ntmps178;go_wp21;refine(Tryz.strings_TrimPrefix _ _ _).mono ?_;rintro e w' ⟨rfl,rfl⟩;simp only[H1.out];go_wp21;refine zzM (Tryz.Trim_ascii s ⟨#[48,49,50,51,52,53,54,55,56,57]⟩ _ (by omega) (by decide) (ascii_of_all (by decide))) λw1 hb1=>?_;simp only[H2.out];go_wp21;go_ret;exact⟨rfl,hb1⟩
theorem zq0 (x:Int) (hx:x≠0) (hl:300<digs x) (hm:digs x<=1000000) (w:zA):
 qJ 178 #[St (zE x)] w (.int .i64 4):=by
 have h1:=zbi x;have h2:=zku _ (zan x.natAbs);have h3:digs x=(zD x.natAbs).length:=rfl;obtain⟨c,r,hd,hc1,hc2⟩:=dec_head x.natAbs;have hb:(c.toNat:Int)≠48:=λh=>by have:=zkv hd h;omega
 rw[hd] at h1 h2 h3;obtain⟨s,hs⟩:=zzX (⟨(c::r).toArray⟩:ByteArray);have hz:s.size=r.length+1:=by rw[hs];show(c::r).toArray.size=_;simp
 have h0:0<s.size:=by omega
 have hne:s.toList.isEmpty=false:=by rw[ByteArray.toList_eq,hs];simp
 have hb:(((s[0]'h0).toNat:Int)==48)=false:=by
  rw[beq_eq_false_iff_ne];subst hs;exact hb
 have hl':300<(s.size:Int):=by simp at h3;omega
 have hlen:(s.size:Int)<=1000000:=by simp at h3;omega
 have H1:Hid (⟨(trimPrefix (zE x) [45]).toArray⟩=s):=hid (by rw[h1,hs]);have H2:Hid (trimS s.data.toList [48,49,50,51,52,53,54,55,56,57]=[]):=hid (by rw[hs];exact h2);clear h1 h2 h3 hd hl hm hs hz;go_enter Tryz.func178,Tryz.ntmps178;go_wp21;refine(Tryz.strings_TrimPrefix _ _ _).mono ?_;rintro e w' ⟨rfl,rfl⟩;simp only[H1.out];go_wp21;refine zzM (Tryz.Trim_ascii s ⟨#[48,49,50,51,52,53,54,55,56,57]⟩ _ (by omega) (by decide) (ascii_of_all (by decide))) λw1 hb1=>?_;simp only[H2.out];go_wp21;go_ret;exact⟨rfl,hb1⟩
theorem zuu (w:zA):
 qJ 178 #[.string ⟨#[48]⟩] w (.int .i64 0):=by
 have h1:Lib.trimPrefix [48] [45]=[48]:=by decide
 have h2:Lib.trimS [48] [48,49,50,51,52,53,54,55,56,57]=[]:=by decide
 have H1:=hid h1;clear h1;have H2:=hid h2;clear h2;go_enter Tryz.func178,Tryz.ntmps178;go_wp21;refine(Tryz.strings_TrimPrefix _ _ _).mono ?_;rintro e w' ⟨rfl,rfl⟩;simp only[H1.out];go_wp21;refine zzM (Tryz.Trim_ascii ⟨#[48]⟩ ⟨#[48,49,50,51,52,53,54,55,56,57]⟩ _ (by decide) (by decide) (ascii_of_all (by decide))) λw1 hb1=>?_;simp only[H2.out];go_wp21;go_ret;exact⟨rfl,hb1⟩
theorem zwl:digs 0=1:=by unfold digs;rw[show(0:Int).natAbs=0 from rfl,zdj];rfl
theorem zq1 (x:Int) (hm:digs x<=1000000) (w:zA):
 qJ 178 #[St (zE x)] w (.int .i64 (if digs x<=300 then 0 else 4)):=by
 by_cases h0:x=0
 ·subst h0
  rw[zwl,if_pos (by decide),zb9];exact zuu w
 ·by_cases hl:digs x<=300
  ·rw[if_pos hl];exact zst x h0 hl hm w
  ·rw[if_neg hl];exact zq0 x h0 (by omega) hm w
theorem zl4 (x:Int) (h:digs x<=300) (w:zA):
 qJ 178 #[St (zE x)] w (.int .i64 0):=by
 have:=zq1 x (by omega) w;rw[if_pos h] at this;exact this
theorem zdh (x y:Int) (hx:digs x<=300) (hy:digs y<=300) (w:zA):
 qJ 114 #[St (zE x),St (zE y)] w (.int .i64 0):=by
 have c1:=hid hx;clear hx;have c2:=hid hy;clear hy;go_enter Tryz.func114,Tryz.ntmps114;go_wp21;refine zzM (zl4 x c1.out _) λw1 hb1=>?_;go_wp21;refine zzM (zl4 y c2.out _) λw2 hb2=>?_;go_wp21;go_ret;exact⟨rfl,hb1.trans (hb2.mono hb1.size)⟩
theorem zdy (x y:Int) (hx:(zE x).length<=18) (hy:(zE y).length<=18) (w:zA):
 qJ 115 #[St (zE x),St (zE y),.int .i64 18] w (.tuple #[.int .i64 x,.int .i64 y,.bool true]):=by
 have h1:decide (18<((zE x).length:Int))=false:=by simp;omega
 have h2:decide (18<((zE y).length:Int))=false:=by simp;omega
 have c1:=hid hx;clear hx;have c2:=hid hy;clear hy;go_enter Tryz.func115,Tryz.ntmps115;go_wp21;refine zzM (znc x c1.out _) λw1 hb1=>?_;go_wp21;refine zzM (znc y c2.out _) λw2 hb2=>?_;go_wp21;go_quiet (fail);go_wp21;go_ret3;exact⟨rfl,below_drewN (hb1.trans (hb2.mono hb1.size)) _⟩
theorem ze8 (x y:Int) (h:18<(zE x).length\/18<(zE y).length) (w:zA):
 zC zF 115 #[St (zE x),St (zE y),.int .i64 18] w λe w'=>e=.returned (.tuple #[.int .i64 0,.int .i64 0,.bool false])/\w=w':=by
 by_cases hx:(zE x).length<=18
 ·have h1:decide (18<((zE x).length:Int))=false:=by simp;omega
  have h2:decide (18<((zE y).length:Int))=true:=by simp;omega
  clear hx h;go_enter Tryz.func115,Tryz.ntmps115;go_wp21;go_ret3;exact⟨rfl,rfl⟩
 ·have h1:decide (18<((zE x).length:Int))=true:=by simp;omega
  clear hx h;go_enter Tryz.func115,Tryz.ntmps115;go_wp21;go_ret3;exact⟨rfl,rfl⟩
end Go.Proofs.YtfoodcpnnmonhaaGreatDoor
namespace Go.Proofs.YtfoodcpnnmonhaaGreatDoor
open Go
variable {P:Program} {ops:Array Oper}
structure SQ (P:Program) (ops:Array Oper) (w:zA) (Q:Act->Prop) (l:List Oper) (a:Act):Prop where
 out:wpStill P ops w Q l a
theorem SQ.read {w:zA} {Q:Act->Prop} {a:Act} {o:Oper} {rest:List Oper} {v:Value} (hw:Region.wanted o (yielded ops a.tmps)=true)
 (hy:(execOp a.eval o).run P w=.ok (.value v) w) (h:SQ P ops w Q rest (a.put o.dst v)):SQ P ops w Q (o::rest) a:=⟨by
 simp only[wpStill,hw,if_true]
 unfold Oper.still
 rw[hy]
 exact⟨rfl,h.out⟩⟩
theorem SQ.nil {w:zA} {Q:Act->Prop} {a:Act} (h:Q a):SQ P ops w Q [] a:=⟨wpStill_nil h⟩
theorem ztu {l m id:Nat} {Q:Exit->Act->zA->Prop} {a:Act} {w:zA} {ol:List Oper} (n:Nat) (hm:P.follows .mixedOrders=true) (hB:Region.lexTailB .any ol.toArray n=true) (hnd:zhj ol.toArray=true)
 (h:SQ P ol.toArray w.drew (λa'=>wpList P ol.toArray (λe a w=>e=.normal/\Q .normal a w) (ol.drop n) a' w.drew) (ol.take n) a):(Code.region id ol.toArray true).wpIn (Fence.wide.inRound l) m P Q a w:=zis n hm hB hnd h.out
theorem zey {id:Nat} {Q:Exit->Act->zA->Prop} {a:Act} {w:zA} {ol:List Oper} (n:Nat) (S:zA->Prop) (hm:P.follows .mixedOrders=true)
 (hB:(Region.noSelect ol.toArray&&decide (n<ol.length)&&zi7 ol.toArray n 0 (Array.replicate ol.length false)&&Region.seqB .any ol.toArray (ol.length-n) n (zjs n 0 (Array.replicate ol.length false)))=true)
 (hS:S w.drew)
 (h:zex P ol.toArray S (λa'=>zdw P ol.toArray (λe a w=>e=.normal/\Q .normal a w) S (ol.drop n) a' w.drew) (ol.take n) a):
 (Code.region id ol.toArray true).wp P Q a w:=by
 simp only[Bool.and_eq_true,decide_eq_true_eq] at hB;obtain⟨⟨⟨hsel,hn⟩,hlex⟩,hseq⟩:=hB;have htl:(ol.take n).length=n:=by simp;omega
 have hdl:(ol.drop n).length=ol.length-n:=by simp
 refine wp_mono (Q:=λe a w=>e=.normal/\Q .normal a w) (wp_region_any hm (wpAny_of_held _ _ _ _ (S:=S) ?_)) (λe a w h=>by obtain⟨rfl,h⟩:=h;exact h)
 have H:=zko (P:=P) (ops:=ol.toArray) (S:=S) (Q:=λe a w=>e=.normal/\Q .normal a w) hsel (λc a b w h=>absurd h.1 (by intro e;cases e)) hS (ol.length-n) (ol.take n) 0 (Array.replicate ol.length false) a
  (λj hj=>by have hj':j<n:=by rw[htl] at hj;exact hj
             simp[hj']) (by rw[htl];exact hlex) (by
    rw[htl];refine zhv ?_ _ _ h;intro a' h';have:=zkp (P:=P) (ops:=ol.toArray) (Q:=λe a w=>e=.normal/\Q .normal a w) (S:=S) (ol.drop n) n _ a' _ (λj=>by simp[List.getElem?_drop]) (by rw[hdl];exact hseq) h';rwa [hdl] at this)
 rw[htl,show n+(ol.length-n)=ol.length by omega] at H;simpa using H
def zjw (ops:Array Oper):List (Nat×Bool)->Array Bool->Bool
 |[],listed=>(Region.ready .any ops listed).isEmpty
 |(k,true)::r,listed=>Region.free .any ops listed k&&(Region.ready .any ops listed).contains k&&zjw ops r (listed.setIfInBounds k true)
 |(k,false)::r,listed=>decide (Region.ready .any ops listed=[k])&&zjw ops r (listed.setIfInBounds k true)
def zlp (P:Program) (ops:Array Oper) (Q:Exit->Act->zA->Prop) (S:zA->Prop):List (Nat×Bool)->Act->zA->Prop
 |[],a,w=>Q .normal a w
 |(k,true)::r,a,w=>∃o v,ops[k]? =some o/\YieldsIf P ops S o v a/\zlp P ops Q S r (a.put o.dst v) w
 |(k,false)::r,a,w=>∃o,ops[k]? =some o/\if Region.wanted o (yielded ops a.tmps) then o.wp P a w (λa' w'=>S w'/\zlp P ops Q S r a' w') Q else S w/\zlp P ops Q S r (a.put o.dst undef) w
theorem zof {S:zA->Prop} {Q:Exit->Act->zA->Prop} (hs:Region.noSelect ops=true) (hQ:∀c a b w,Q (.panic c) a w->Q (.panic c) b w):
 ∀(l:List (Nat×Bool)) (listed:Array Bool) (a:Act) (w:zA),zjw ops l listed=true->S w->zlp P ops Q S l a w->wpAnyH P .any ops Q S l.length listed a w
 |[],listed,a,w,hB,_,h=>⟨by simpa [zjw] using hB,h⟩
 |(k,true)::r,listed,a,w,hB,hS,⟨o,v,ho,hy,h⟩=>by
  simp only[zjw,Bool.and_eq_true] at hB;exact wpAnyH_take ho hs hB.1.1 hB.1.2 (λc a w h=>hQ c _ _ w h) hy hS (zof hs hQ r _ _ _ hB.2 hS h)
 |(k,false)::r,listed,a,w,hB,hS,⟨o,ho,h⟩=>by
  simp only[zjw,Bool.and_eq_true,decide_eq_true_eq] at hB;refine wpAnyH_all hB.1 (by simp) λi hi=>?_;obtain rfl:i=k:=by simpa using hi
  have hrec:∀a' w',(S w'/\zlp P ops Q S r a' w')->(S w'/\wpAnyH P .any ops Q S r.length (listed.setIfInBounds i true) a' w'):=λa' w' h'=>⟨h'.1,zof hs hQ r _ _ _ hB.2 h'.1 h'.2⟩;refine wpOp_mono hrec ?_;unfold wpOp;simp only[ho];by_cases hw:Region.wanted o (yielded ops a.tmps)=true
  ·simp only[hw,if_true] at h⊢;exact .inl h
  ·simp only[hw,Bool.false_eq_true,if_false] at h⊢;exact h
structure MQ (P:Program) (ops:Array Oper) (Q:Exit->Act->zA->Prop) (S:zA->Prop) (l:List (Nat×Bool)) (a:Act) (w:zA):Prop where
 out:zlp P ops Q S l a w
section
variable {Q:Exit->Act->zA->Prop} {S:zA->Prop} {r:List (Nat×Bool)} {a:Act} {w:zA} {k:Nat} {o:Oper} {v:Value}
theorem MQ.nil (h:Q .normal a w):MQ P ops Q S [] a w:=⟨h⟩
theorem MQ.take (ho:ops[k]? =some o) (hw:Region.wanted o (yielded ops a.tmps)=true) (hy:∀w,S w->(execOp a.eval o).run P w=.ok (.value v) w) (h:MQ P ops Q S r (a.put o.dst v) w):MQ P ops Q S ((k,true)::r) a w:=
 ⟨o,v,ho,.inl ⟨hw,hy⟩,h.out⟩
theorem MQ.only (ho:ops[k]? =some o) (hw:Region.wanted o (yielded ops a.tmps)=true)
 (h:∀K:Act->zA->Prop,(∀a' w',S w'->MQ P ops Q S r a' w'->K a' w')->o.wp P a w K Q):MQ P ops Q S ((k,false)::r) a w:=
 ⟨o,ho,by simp only[hw,if_true];exact h _ λa' w' h1 h2=>⟨h1,h2.out⟩⟩
end
theorem zwm {id:Nat} {Q:Exit->Act->zA->Prop} {a:Act} {w:zA} {ops:Array Oper} (l:List (Nat×Bool)) (S:zA->Prop) (hm:P.follows .mixedOrders=true)
 (hB:(Region.noSelect ops&&decide (l.length=ops.size)&&zjw ops l (Array.replicate ops.size false))=true) (hS:S w.drew)
 (h:MQ P ops (λe a w=>e=.normal/\Q .normal a w) S l a w.drew):(Code.region id ops true).wp P Q a w:=by
 simp only[Bool.and_eq_true,decide_eq_true_eq] at hB;obtain⟨⟨hsel,hn⟩,hp⟩:=hB;refine wp_mono (Q:=λe a w=>e=.normal/\Q .normal a w) (wp_region_any hm (wpAny_of_held _ _ _ _ (S:=S) ?_)) (λe a w h=>by obtain⟨rfl,h⟩:=h;exact h);have H:=zof (P:=P) hsel (λc a b w h=>absurd h.1 (by intro e;cases e)) l _ _ _ hp hS h.out;rw[hn] at H;exact H
end Go.Proofs.YtfoodcpnnmonhaaGreatDoor
namespace Go.Proofs.YtfoodcpnnmonhaaGreatDoor
open Go.RowKit Go.Shelf Lib Str Limb
attribute [local go_sem] Oper.semAt_some
theorem zuv (s:ByteArray) (w:zA):
 zC zF 179 #[.string s] w λe w'=>e=.returned (.func (.func 239) #[] #[.pointer (some ⟨w.heap.size,0,none⟩)])/\w.alloc (.cells #[.string s] 9)=w':=by
 go_enter Tryz.func179,Tryz.ntmps179;go_wp2;go_ret;exact⟨rfl,rfl⟩
theorem zng (l:List UInt8) (i:Nat) (h:i<(⟨l.toArray⟩:ByteArray).size) (h2:i<l.length):(⟨l.toArray⟩:ByteArray)[i]'h=l[i]'h2:=rfl
theorem zyz (l:List UInt8) (h:∀c∈l,48<=c.toNat/\c.toNat<=57) (s:ByteArray) (hs:s=⟨l.toArray⟩) (k:Nat) (hk:k<l.length) (hb:s.size-1-k<s.size):
 ((s[s.size-1-k]'hb).toNat:Int)=(((digL l)[k]?.getD 0:Nat):Int)+48/\(digL l)[k]?.getD 0<10:=by
 have e:=z07 l k hk;have hl:s.size=l.length:=by rw[hs];show l.toArray.size=_;simp
 have h1:s[s.size-1-k]'hb=l[l.length-1-k]'(by omega):=by
  subst hs;rw[zng l _ hb (by omega)];simp only[hl]
 have:=h _ (List.getElem_mem (show l.length-1-k<l.length by omega));rw[h1,e];omega
theorem zwn (Bs:Nat) (l:List UInt8) (hl:∀c∈l,48<=c.toNat/\c.toNat<=57) (hlen:l.length<=100000) (Rd:zA->Prop) (hRd:∀W,Rd W->W.cell? ⟨Bs,0,none⟩=some (St l)):
 IterC Fence.wide 2 zF 239 #[.pointer (some ⟨Bs,0,none⟩)] Rd (λk args=>args= #[I k,I ((digL l)[k]?.getD 0)]) l.length:=by
 intro lp J Jx W hJr _ hY h0;obtain⟨s,hs⟩:=zzX (⟨l.toArray⟩:ByteArray);have hsz:l.length=s.size:=by rw[hs];show _=l.toArray.size;simp
 have hbyte:=λk=>zyz l hl s hs k;rw[hsz] at hbyte hlen hY⊢;change ∀W,Rd W->W.cell? ⟨Bs,0,none⟩=some (.string ⟨l.toArray⟩) at hRd;rw[<-hs] at hRd;have hb:=hRd W (hJr 0 W h0);have HRd:=hid hRd;clear hRd;have HY:=hid hY;clear hY;have HJR:=hid hJr;clear hJr;have HBY:=hid hbyte;clear hbyte;clear hs hsz;refine callsIn_of_wp Tryz.func239 rfl trivial ?_ rfl;simp only[Tryz.ntmps239,zZ,yA,List.length_nil,Nat.reduceAdd,Nat.reduceSub,Array.replicate_succ,Array.replicate_zero,List.push_toArray,List.append_toArray,yI,yM];gi_wp2;gi_loopw [6] (λi wr=>∃(k:Nat),k<=s.size/\i=.int .i64 (k:Int)/\Hid (J k wr))
  (λi _=>s.size-(zL i).toNat)
 case atStart=>exact⟨0,zR _,rfl,h0⟩
 case round=>
  clear hb;obtain⟨k,hk,rfl,hJ⟩:=hrel;by_cases hlt:k<s.size
  ·have hbox:=HRd.out wr (HJR.out k wr hJ.out)
   have hn1:s.size-1-k<s.size:=by omega
   obtain⟨e1,e2⟩:=HBY.out k hlt hn1;obtain⟨fn,tmps,assign,body,hy,hR⟩:=HY.out k _ wr hJ.out hlt rfl;gi_wp2;refine hR.mono ?_;rintro e W3 (⟨rfl,hJ3⟩|⟨rfl,hJx3⟩)
   ·have HJ3:=hid hJ3;clear hJ3
    gi_wp2;go_roundw
    case rel=>exact⟨k+1,by omega,by go_num,HJ3.out⟩
    case measure=>simp[zL];omega
   ·have HJx3:=hid hJx3;clear hJx3
    gi_wp2;refine bodyPost_ret (results_none rfl _ _ _) rfl ?_;exact⟨⟨_,rfl⟩,.inr HJx3.out⟩
  ·obtain rfl:k=s.size:=by omega
   gi_wp2;go_end0;exact⟨⟨_,rfl⟩,.inl hJ.out⟩
theorem zsu {g:Operand} {ps:Array Tmp} {assign body:Code} {Q:Exit->Act->zA->Prop} {a:Act} {w:zA}
 (Bs:Nat) (l:List UInt8) (hl:∀c∈l,48<=c.toNat/\c.toNat<=57) (hlen:l.length<=100000)
 (hg:a.eval g=.func (.func 239) #[] #[.pointer (some ⟨Bs,0,none⟩)]) (hps:ps.size=2)
 {B:Nat} (hB:B<=w.heap.size) (I':Nat->zA->Prop) (Ix:Code->Nat->zA->Prop) (hI:∀k W W',I' k W->CellsKept W W'->zB B W W'->I' k W') (hIx:∀c k W W',Ix c k W->CellsKept W W'->zB B W W'->Ix c k W')
 (hRd:∀k W,I' k W->W.cell? ⟨Bs,0,none⟩=some (St l)) (h0:I' 0 w) (a₁:Nat->Nat->Act)
 (hassign:∀(lp k d:Nat) (W:zA) (K:Act->zA->Prop),K (a₁ k d) W->
   assign.wpIn (Fence.wide.inRound lp) 1 zF (Exit.then K (λ_ _ _=>False)) {tmps:=(ps.zip #[I k,I d]).foldl (λt (p,v)=>t.setIfInBounds p v) a.tmps,defers:=[]} W)
 (hbody:∀(lp k d:Nat) (W:zA),w.heap.size<=lp->I' k W->k<l.length->d=(digL l)[k]?.getD 0->d<10->body.wpIn (Fence.wide.inRound lp) 1 zF (zja w.heap.size I' Ix k W) (a₁ k d) W)
 (hdone:∀(D:Nat) (W:zA),w.heap.size<=D->I' l.length W->W.heap[D]? =some (.deferred (some []))->Q .normal {a with defers:={target:=.collected D,args:= #[]}::a.defers} W)
 (hstop:∀(D:Nat) (c:Code) (k:Nat) (W:zA),w.heap.size<=D->Ix c k W->W.heap[D]? =some (.deferred (some []))->c.wpIn Fence.wide 3 zF Q {a with defers:={target:=.collected D,args:= #[]}::a.defers} W):
 (Code.rangeFunc g ps assign body).wpIn Fence.wide 3 zF Q a w:=
 zqz (n:=3) rfl (by omega) hg trivial (enters_of Tryz.func239 (by kernel_rfl) rfl) (zwn Bs l hl hlen _ (λW h=>h))
  (λk args h=>by subst h;exact hps.symm) hB I' Ix hI hIx hRd h0 (λk _=>a₁ k ((digL l)[k]?.getD 0))
  (λlp k args W K h hK=>by subst h;exact hassign lp k _ W K hK)
  (λlp k args W h1 h2 h3 h4 h5=>hbody lp k _ W h1 h3 h4 rfl (zaj (zfz hl) (by omega) k))
  hdone hstop
theorem Boxed.put {W:zA} {B:Nat} {t:TypeId} {v:Value} (h:Boxed W B t v) (u:Value):Boxed (W.setCell ⟨B,0,none⟩ u) B t u:=by
 unfold Boxed at*;simp[World.setCell,Array.getElem?_modify,h]
structure ReadI (w:zA) (z m:Nat) (b:Bool) (l:List UInt8) (k u:Nat) (W:zA):Prop where
 st:W.heap[z]? =some (.cells #[.bool b,.slice (some ⟨w.heap.size+1,0,none⟩) m m] 150 (0,0))
 un:Boxed W (z+1) 3 (I u)
 sb:Boxed W (z+2) 9 (St l)
 row:Row W (w.heap.size+1) m (zb8 9 (digL l) m k)
 res:W.heap[w.heap.size]? =some (.cells #[.bool false,.slice none 0 0] 150 (0,0))
 below:qL w W
section
variable {w W W':zA} {z m k u:Nat} {b:Bool} {l:List UInt8}
theorem ReadI.kept (h:ReadI w z m b l k u W) (hk:CellsKept W W') (hb:zB w.heap.size W W'):ReadI w z m b l k u W':=
 ⟨hk _ _ _ _ h.st,hk.boxed h.un,hk.boxed h.sb,hk.row h.row,hk _ _ _ _ h.res,h.below.trans hb⟩
theorem ReadI.drew (h:ReadI w z m b l k u W):ReadI w z m b l k u W.drew:=h.kept (λ_ _ _ _ h=>h) (zM _ _).drew
theorem ReadI.unit (h:ReadI w z m b l k u W) (hz:w.heap.size+1<z) (u':Nat):ReadI w z m b l k u' (W.setCell ⟨z+1,0,none⟩ (I u')):=
 ⟨(yE W ⟨z+1,0,none⟩ _ z (by show z≠z+1;omega)).trans h.st,Boxed.put h.un _,h.sb.other (by omega) _,h.row.other (by show w.heap.size+1≠z+1;omega) _,
   (yE W ⟨z+1,0,none⟩ _ w.heap.size (by show w.heap.size≠z+1;omega)).trans h.res,h.below.setCell (p:=⟨z+1,0,none⟩) (by show w.heap.size<=z+1;omega) _⟩
theorem ReadI.limb (h:ReadI w z m b l k u W) (hz:w.heap.size+1<z) {y:Nat} (hy:y=(zb8 9 (digL l) m k)[k/9]?.getD 0+(digL l)[k]?.getD 0*10^(k%9)):ReadI w z m b l (k+1) u (W.setCell ⟨w.heap.size+1,k/9,none⟩ (I y)):=
 ⟨(yE W ⟨w.heap.size+1,k/9,none⟩ _ z (by show z≠w.heap.size+1;omega)).trans h.st,(yE W ⟨w.heap.size+1,k/9,none⟩ _ (z+1) (by show z+1≠w.heap.size+1;omega)).trans h.un,(yE W ⟨w.heap.size+1,k/9,none⟩ _ (z+2) (by show z+2≠w.heap.size+1;omega)).trans h.sb,by subst hy;exact h.row.set (k/9) _,
   (yE W ⟨w.heap.size+1,k/9,none⟩ _ w.heap.size (by show w.heap.size≠w.heap.size+1;omega)).trans h.res,h.below.setCell (p:=⟨w.heap.size+1,k/9,none⟩) (by show w.heap.size<=w.heap.size+1;omega) _⟩
end
theorem z08 (k:Nat):10^(k%9)<=100000000:=by
 have:10^(k%9)<=10^8:=yF (by omega) (by have:=Nat.mod_lt k (show 0<9 by omega);omega);exact this
theorem zwo (k:Nat) (h:(k+1)%9≠0):10^(k%9)*10=10^((k+1)%9):=by
 rw[show(k+1)%9=k%9+1 by omega,yO]
theorem Sl.set {w:zA} {v:Value} {l:List Nat} (h:Sl w v (l.map I)) {p:Addr} {c:Value} (hc:w.cell? p=some c) (hn:∀x,c≠I x) (u:Value):Sl (w.setCell p u) v (l.map I):=by
 obtain⟨q,cap,e,hcap,hcs⟩:=h;refine⟨q,cap,e,hcap,λi x hx=>?_⟩;obtain⟨b',off,ep,h'⟩:=hcs i x hx;refine⟨b',off,ep,?_⟩;rw[World.cell?_setCell_other]
 ·exact h'
 ·rintro rfl
  rw[hc] at h';cases h';rw[List.getElem?_map] at hx
  cases hl:l[i]? with
  |none=>rw[hl] at hx;cases hx
  |some y=>rw[hl] at hx;cases hx;exact hn y rfl
theorem Sl.trim_at {w:zA} {p:Option Addr} {cap n:Nat} {l:List Nat} (h:Sl w (.slice p n cap) (l.map I)) (hn:l.length=n):Sl w (.slice p (zat l).length cap) ((zat l).map I):=by
 subst hn;exact Sl.trim h
theorem zc3 (x:Int) (w:zA) (hl:digs x<=700):
 zC zF 116 #[St (zE x)] w λe w'=>∃v,e=.returned (.agg #[.bool (decide (x<0)),v])/\Sl w' v ((zaa B9 x.natAbs).map I)/\zB w.heap.size w w':=by
 have hcp:=Tryz.strings_CutPrefix ⟨(zE x).toArray⟩ ⟨#[45]⟩;rw[show(⟨(zE x).toArray⟩:ByteArray).data.toList=zE x from rfl,show(⟨#[45]⟩:ByteArray).data.toList=[45] from rfl,zbi,zdx] at hcp;have HCP:=hid hcp;clear hcp;obtain⟨l,hll⟩:=zzX (zD x.natAbs);have hdl:=zan x.natAbs;rw[<-hll] at hdl HCP;have hlen:l.length<=700:=by rw[hll];exact hl
 have HLL:=hid hll;clear hll;obtain⟨s,hs⟩:=zzX (⟨l.toArray⟩:ByteArray);have hsz:(s.size:Int)=l.length:=by rw[hs];show(l.toArray.size:Int)=_;simp
 rw[<-hs] at HCP;have HS:=hid hs;clear hs;have HSZ:=hid hsz;have hszb:s.size<=700:=by omega
 clear hsz;refine(callsIn_wide (n:=3)).1 ?_;refine callsIn_of_wp_marks Tryz.func116 rfl trivial ?_ rfl;simp only[Tryz.ntmps116,zZ,yA,List.length_nil,Nat.reduceAdd,Nat.reduceSub,Array.replicate_succ,Array.replicate_zero,List.push_toArray,List.append_toArray,yI,yM];gi_wp2_with (refine⟨trivial,?_⟩;gi_at_call 129;refine(callsIn_wide.2 (HCP.out _)).mono ?_);rintro e w1 ⟨rfl,rfl⟩;obtain⟨m,hm⟩:=zzX ((s.size+9-1)/9);have hmi:((s.size:Int)+9-1)/9=(m:Int):=by omega
 have hmb:m<=100:=by omega
 have hm9:s.size<=9*m:=by omega
 obtain⟨w2,hmk,hrow,hb2⟩:=zg2 (w.alloc (.cells #[.bool false,.slice none 0 0] 150)) w.heap.size m (by simp) (by omega);rw[<-hmi] at hmk;have HMI:=hid hmi;clear hmi;have HM:=hid hm;clear hm;have hB2:qL w w2:=((zM _ w).alloc (zN _) _).trans (hb2.mono (by simp));have bR:w2.heap[w.heap.size]? =some (.cells #[.bool false,.slice none 0 0] 150 (0,0)):=(hb2.block _ (by simp)).trans (zG w _);simp only[zH] at hrow hmk;clear hb2;gi_wp2_with (refine⟨trivial,?_⟩;gi_at_call 179;refine(callsIn_wide.2 (zuv s _)).mono ?_);rintro e w5 ⟨rfl,rfl⟩;have hz:=hrow.lt;have hI0:ReadI w w2.heap.size m (decide (x<0)) l 0 1 (((w2.alloc (.cells #[.bool (decide (x<0)),.slice (some ⟨w.heap.size+1,0,none⟩) m m] 150)).alloc (.cells #[.int .i64 1] 3)).alloc (.cells #[.string s] 9)):=by
  have hz0:=hB2.size;refine⟨?_,?_,?_,((hrow.alloc _).alloc _).alloc _,?_,((hB2.alloc hB2.size _).alloc (by simp;omega) _).alloc (by simp;omega) _⟩
  ·exact(Below.heap_alloc _ _ _ (by simp only[zH];omega)).trans ((Below.heap_alloc _ _ _ (by simp only[zH];omega)).trans (zG w2 _))
  ·have:=Boxed.new (w2.alloc (.cells #[.bool (decide (x<0)),.slice (some ⟨w.heap.size+1,0,none⟩) m m] 150)) 3 (.int .i64 1)
   rw[zH] at this;exact this.alloc _
  ·have:=Boxed.new ((w2.alloc (.cells #[.bool (decide (x<0)),.slice (some ⟨w.heap.size+1,0,none⟩) m m] 150)).alloc (.cells #[.int .i64 1] 3)) 9 (.string s)
   rw[zH,zH,HS.out] at this;rw[HS.out];exact this
  ·exact(Below.heap_alloc _ _ _ (by simp only[zH];omega)).trans ((Below.heap_alloc _ _ _ (by simp only[zH];omega)).trans ((Below.heap_alloc _ _ _ (by omega)).trans bR))
 have hs5:((w2.alloc (.cells #[.bool (decide (x<0)),.slice (some ⟨w.heap.size+1,0,none⟩) m m] 150)).alloc (.cells #[.int .i64 1] 3)).heap.size=w2.heap.size+2:=by simp
 rw[hs5];have hm9':l.length<=9*m:=by have:=HSZ.out;omega
 clear hs5 hmk hrow bR hB2 hm9;generalize ((w2.alloc (.cells #[.bool (decide (x<0)),.slice (some ⟨w.heap.size+1,0,none⟩) m m] 150)).alloc (.cells #[.int .i64 1] 3)).alloc (.cells #[.string s] 9)=W5 at*
 generalize w2.heap.size=z at*
 clear w2;generalize hbx:decide (x<0)=b at*
 have HBX:=hid hbx;clear hbx;gi_wp2
 refine zsu (z+2) l hdl (by omega) rfl rfl (B:=w.heap.size) hI0.below.size (λk W=>∃u,ReadI w z m b l k u W/\(k%9≠0->u=10^(k%9))/\u<=1000000000) (λ_ _ _=>False)
  (λk W W' h hk hb=>let ⟨u,h1,h2⟩:=h;⟨u,h1.kept hk hb,h2⟩) (λ_ _ _ _ h _ _=>h) (λk W h=>let ⟨u,h1,_⟩:=h;h1.sb.cell) ⟨1,hI0,by simp,by omega⟩ ?a1 ?assign ?body ?done ?stop
 case stop=>exact λ_ _ _ _ _ h _=>h.elim
 case assign=>
  intro lp k d W K hK;gi_wp2;exact hK
 case body=>
  rintro lp k d W hlp ⟨u,hI,hu1,hu2⟩ hk hd hd10;obtain⟨r1,r2, -,r4, -⟩:=zgp (p:=9) (by omega) (zfz hdl) (m:=m) (by rw[zfi];exact hm9') k (by rw[zfi];omega);have hkm:k/9<m:=by omega
  have hp:=z08 k;have hpn:=zwo k;have HPN:=hid hpn;clear hpn;obtain⟨y,hy⟩:=zzX ((zb8 9 (digL l) m k)[k/9]?.getD 0);have hyb:y<1000000000:=by rw[hy];exact zaj r2 (by decide) _
  have HU1:=hid hu1;clear hu1;have hlr:=hI.row.cell (getD_some (show k/9<(zb8 9 (digL l) m k).length by rw[r1];exact hkm));rw[<-hy] at hlr;have hfr:=hI.row.frozen (k/9);have HY:=hid hy;clear hy r1 r2 r4;have HDD:=hid hd;clear hd;have cx:W.cell? ⟨z,1,none⟩=some (.slice (some ⟨w.heap.size+1,0,none⟩) m m):=by simp[World.cell?,hI.st]
  have bu:=hI.un;have cu:=bu.cell;have fu:=bu.frozen;obtain⟨q,hq⟩:=zzX (k/9);rw[<-hq] at hkm hlr hfr;have w1:IntKind.i64.wrap ((k:Int)/9)=(q:Int):=(zI _ (by omega)).trans (by omega);have HQ:=hid hq;clear hq;obtain⟨P,hP⟩:=zzX (10^(k%9));rw[<-hP] at hp HPN HU1;have HP:=hid hP;clear hP;by_cases hk9:k%9=0
  ·have hb9:(((k:Int)%9)==0)=true:=by rw[beq_iff_eq];omega
   have HK9:=hid hk9;clear hk9;have cu1:=za9 (u:=.int .i64 1) cu;have cx1:=(zau W (b:=z) (b':=z+1) 1 0 (.int .i64 1) (by omega)).trans cx;have cl1:=(zau W (b:=w.heap.size+1) (b':=z+1) q 0 (.int .i64 1) (by omega)).trans hlr;have hI1:=hid (show ReadI w z m b l k 1 (W.setCell ⟨z+1,0,none⟩ (.int .i64 1)) from hI.unit hz 1);have w2:IntKind.i64.wrap (d:Int)=(d:Int):=zI _ (by omega);have w3:IntKind.i64.wrap ((y:Int)+d)=(y:Int)+d:=zI _ (by omega);have W1:=hid w1;have W2:=hid w2;have W3:=hid w3;clear w1 w2 w3;gi_wp2;clear cu cx hlr;have w1:=W1.out;have w2:=W2.out;have w3:=W3.out
   (refine ztu 11 (by kernel_rfl) (by kernel_rfl) (by kernel_rfl) ?_;simp only[List.take_succ_cons,List.take_zero,List.drop_succ_cons,List.drop_zero];(repeat(first|(apply SQ.read (by rfl);(focus(go_simp;try with_reducible rfl));try simp only[zzQ])|(apply SQ.skip (by rfl);try simp only[zzQ])));refine SQ.nil ?_)
   clear cx1 w1 w2 w3 W1 W2 W3 cu1;have hI2:=hI1.out.limb hz (y:=y+d) (by
    rw[<-HY.out,<-HDD.out,<-HP.out,show P=1 by rw[HP.out,HK9.out],Nat.mul_one])
   rw[<-HQ.out] at hI2;have bu2:=hI2.un;have cu2:=bu2.cell;have fu2:=bu2.frozen;rw[show I (y+d)=Value.int .i64 ((y:Int)+d) by simp[I]] at hI2 cu2 fu2;have HI2:=hid hI2;clear hI1 bu2 bu fu;go_wp2;gi_wp2;exact⟨((KeepsOthers.setCell W _ _).trans ((KeepsOthers.setCell _ _ _).trans ((KeepsOthers.setCell _ _ _).trans (KeepsOthers.drew _)))).from _,10,(HI2.out.unit hz 10).drew,
    λh=>by rw[<-HPN.out h,show P=1 by rw[HP.out,HK9.out]],by omega⟩
  ·have hb9:(((k:Int)%9)==0)=false:=by rw[beq_eq_false_iff_ne];omega
   have hu:=HU1.out hk9;have HK9:=hid hk9;clear hk9;subst hu;obtain⟨p,hp'⟩:=zzX (d*u);have hpb:p<=900000000:=by rw[hp'];exact Nat.mul_le_mul (show d<=9 by omega) hp
   have hI1:=hid hI;have w2:IntKind.i64.wrap ((d:Int)*(u:Int))=(p:Int):=(zI _ (by rw[<-Int.natCast_mul,<-hp'];omega)).trans (by rw[hp'];simp);have w3:IntKind.i64.wrap ((y:Int)+p)=(y:Int)+p:=zI _ (by omega);have HPD:=hid hp';clear hp';have W1:=hid w1;have W2:=hid w2;have W3:=hid w3;clear w1 w2 w3;gi_wp2;have w1:=W1.out;have w2:=W2.out;have w3:=W3.out
   (refine ztu 11 (by kernel_rfl) (by kernel_rfl) (by kernel_rfl) ?_;simp only[List.take_succ_cons,List.take_zero,List.drop_succ_cons,List.drop_zero];(repeat(first|(apply SQ.read (by rfl);(focus(go_simp;try with_reducible rfl));try simp only[zzQ])|(apply SQ.skip (by rfl);try simp only[zzQ])));refine SQ.nil ?_)
   clear cx w1 w2 w3 W1 W2 W3 cu;have hI2:=hI1.out.limb hz (y:=y+p) (by
    rw[<-HY.out,<-HDD.out,<-HP.out,HPD.out])
   rw[<-HQ.out] at hI2;have bu2:=hI2.un;have cu2:=bu2.cell;have fu2:=bu2.frozen;rw[show I (y+p)=Value.int .i64 ((y:Int)+p) by simp[I]] at hI2 cu2 fu2;have HI2:=hid hI2;clear hI1 bu2 bu fu hI;go_wp2;gi_wp2;have hf:=(HI2.out.unit hz (u*10)).drew;rw[show I (u*10)=Value.int .i64 ((u:Int)*10) by simp[I]] at hf;exact⟨((KeepsOthers.setCell W _ _).trans ((KeepsOthers.setCell _ _ _).trans (KeepsOthers.drew _))).from _,u*10,hf,λh=>HPN.out h,by omega⟩
 case done=>
  rintro D W hD ⟨u,hI, -, -⟩ hK;have hr:=hI.row;have hrl:=zus (p:=9) (by omega) x.natAbs m (by rw[<-HLL.out];exact hm9');rw[<-HLL.out] at hrl;obtain⟨L,hL⟩:=zzX (zb8 9 (digL l) m l.length);rw[<-hL] at hr hrl;have hrl9:zat L=zaa B9 x.natAbs:=hrl;have hLl:L.length=m:=by rw[hL];exact(zgp (p:=9) (by omega) (zfz hdl) (m:=m) (by rw[zfi];exact hm9') l.length (by rw[zfi];omega)).1
  have hsl:=hr.sl;rw[hLl] at hsl;have htr:=zi6 (some ⟨w.heap.size+1,0,none⟩) m m L W hsl (by omega);rw[hrl9] at htr;have HTR:=hid htr;clear htr;have hst:=hsl.trim_at hLl;rw[hrl9] at hst;have HSL:=hid hst;clear hst hsl hr hrl hrl9 hLl hL;have HI:=hid hI;have cx:W.cell? ⟨z,1,none⟩=some (.slice (some ⟨w.heap.size+1,0,none⟩) m m):=by simp[World.cell?,hI.st]
  have fx:W.frozen? ⟨z,1,none⟩=false:=by simp[World.frozen?,hI.st]
  have cx0:W.cell? ⟨z,0,none⟩=some (.bool b):=by simp[World.cell?,hI.st]
  have cr0:W.cell? ⟨w.heap.size,0,none⟩=some (.bool false):=by simp[World.cell?,hI.res]
  have cr1:W.cell? ⟨w.heap.size,1,none⟩=some (.slice none 0 0):=by simp[World.cell?,hI.res]
  have fr0:W.frozen? ⟨w.heap.size,0,none⟩=false:=by simp[World.frozen?,hI.res]
  have fr1:W.frozen? ⟨w.heap.size,1,none⟩=false:=by simp[World.frozen?,hI.res]
  have hne:w.heap.size≠z:=by omega
  have hne2:z≠w.heap.size:=by omega
  clear hI;have HK:=hid hK;clear hK;gi_wp2_with (refine⟨trivial,?_⟩;gi_at_call 180;refine(callsIn_wide.2 HTR.out).mono ?_);rintro e w9 ⟨rfl,rfl⟩;gi_wp2;have hK3:=(((KeepsOthers.setCell W ⟨z,1,none⟩ (.slice (some ⟨w.heap.size+1,0,none⟩) (zaa B9 x.natAbs).length m)).trans (KeepsOthers.setCell _ ⟨w.heap.size,0,none⟩ (.bool b))).trans (KeepsOthers.setCell _ ⟨w.heap.size,1,none⟩ (.slice (some ⟨w.heap.size+1,0,none⟩) (zaa B9 x.natAbs).length m))).same D _ HK.out rfl;refine⟨by simp,.inl ⟨_,_,rfl,run_takeDeferred hK3,?_⟩⟩;have d0:=(zau W (b:=w.heap.size) (b':=z) 0 1 (.slice (some ⟨w.heap.size+1,0,none⟩) (zaa B9 x.natAbs).length m) hne).trans cr0;have d1:=(zau W (b:=w.heap.size) (b':=z) 1 1 (.slice (some ⟨w.heap.size+1,0,none⟩) (zaa B9 x.natAbs).length m) hne).trans cr1;have e1:=(World.cell?_setCell_other _ _ _ (.bool b) (show(⟨w.heap.size,0,none⟩:Addr)≠⟨w.heap.size,1,none⟩ by simp)).trans d1;have e0:=za9 (u:=.bool b) d0;have g0:=(zbk hK3).cell ((World.cell?_setCell_other _ _ _ _ (show(⟨w.heap.size,1,none⟩:Addr)≠⟨w.heap.size,0,none⟩ by simp)).trans e0);have g1:=(zbk hK3).cell (za9 (u:=.slice (some ⟨w.heap.size+1,0,none⟩) (zaa B9 x.natAbs).length m) e1);have hs1:=HSL.out.set cx (λx=>by simp[I]) (.slice (some ⟨w.heap.size+1,0,none⟩) (zaa B9 x.natAbs).length m);have hs2:=hs1.set d0 (λx=>by simp[I]) (.bool b);have hs3:=hs2.set e1 (λx=>by simp[I]) (.slice (some ⟨w.heap.size+1,0,none⟩) (zaa B9 x.natAbs).length m)
  refine⟨.agg #[.bool b,.slice (some ⟨w.heap.size+1,0,none⟩) (zaa B9 x.natAbs).length m],?_,_,by rw[HBX.out],(zbk hK3).sl hs3,zby (((HI.out.below.setCell (p:=⟨z,1,none⟩) (by show w.heap.size<=z;omega) _).setCell (p:=⟨w.heap.size,0,none⟩) (by simp) _).setCell (p:=⟨w.heap.size,1,none⟩) (by simp) _) (by have:=hI0.below.size;omega) hK3⟩;simp[results,Tryz.f116,go_sem,g0,g1]
theorem zpw {W W':zA} (h:CellsKept W W') {B:Nat} {e:TypeId} {v:Value} {n:Nat} {xs:List Value} (ho:W.ownsRowF B e 1 v n xs):W'.ownsRowF B e 1 v n xs:=by
 obtain⟨h1,h2⟩:=ho;refine⟨h1,h2.imp id ?_⟩;rintro⟨g,cap,cur,fz,e1,e2,e3,e4⟩;exact⟨g,cap,cur,fz,e1,e2,h _ _ _ _ e3,e4⟩
theorem BuilderAtF.kept {W W':zA} (h:CellsKept W W') {T e:TypeId} {B b:Nat} {p:Value} {bs:List Value} (ho:BuilderAtF T e B b p bs W):BuilderAtF T e B b p bs W':=by
 obtain⟨h1,v,h2,h3,h4⟩:=ho;exact⟨h1,v,h _ _ _ _ h2,zpw h h3,h4⟩
theorem IsBuilderF.kept {W W':zA} (h:CellsKept W W') {T e:TypeId} {B b:Nat} {bs:List Value} (ho:IsBuilderF T e B b bs W):IsBuilderF T e B b bs W':=
 ho.imp (BuilderAtF.kept h) (BuilderAtF.kept h)
theorem zl5 (W:zA) (B:Nat) (hB:B<=W.heap.size):IsBuilderF 230 5 B W.heap.size (byteCells []) (W.alloc (.cells #[.pointer none,.slice none 0 0] 230)):=
 .inl ⟨hB,.slice none 0 0,zG _ _,⟨rfl,.inl ⟨rfl,rfl⟩⟩,by simp[Value.ownBlock]⟩
theorem zl6 {W:zA} {T e:TypeId} {B b:Nat} {bs:List Value} (h:IsBuilderF T e B b bs W):∃cs,W.heap[b]? =some (.cells cs T (0,0)):=by
 rcases h with⟨_,v,h,_⟩|⟨_,v,h,_⟩<;>exact⟨_,h⟩
theorem zcy {W W':zA} {T e:TypeId} {B b:Nat} {bs:List Value} (h:IsBuilderF T e B b bs W) (hb:zB B W W') (hk:OthersKept e (some b) W W') (B':Nat):KeepsFrom B' W W':=
 ⟨hb.size,λk o _ hko ho=>by
   refine hk k o hko (λe=>?_) (λc fz e=>by subst e;cases ho);cases e;obtain⟨cs,hcs⟩:=zl6 h;rw[hcs] at hko;cases hko;cases ho⟩
theorem zms {W W':zA} {T e t:TypeId} {B b k:Nat} {bs:List Value} {cs:Array Value} (h:IsBuilderF T e B b bs W) (hk:OthersKept e (some b) W W') (hb:W.heap[k]? =some (.cells cs t (0,0))) (h1:t≠T) (h2:t≠e):W'.heap[k]? =some (.cells cs t (0,0)):=by
 refine hk k _ hb (λe=>?_) (λc fz e=>by cases e;exact h2 rfl);cases e;obtain⟨cs',hcs⟩:=zl6 h;rw[hcs] at hb;cases hb;exact h1 rfl
structure WriI (w:zA) (b1 b Bs:Nat) (m:Bool) (va:Value) (out:List UInt8) (W:zA):Prop where
 st:W.heap[b1]? =some (.cells #[.bool m,va] 150 (0,0))
 bd:IsBuilderF 230 5 w.heap.size b (byteCells out) W
 bb:Boxed W Bs 39 va
 below:qL w W
section
variable {w W W':zA} {b1 b Bs:Nat} {m:Bool} {va:Value} {out out':List UInt8}
theorem WriI.kept (h:WriI w b1 b Bs m va out W) (hk:CellsKept W W') (hb:zB w.heap.size W W'):WriI w b1 b Bs m va out W':=
 ⟨hk _ _ _ _ h.st,IsBuilderF.kept hk h.bd,hk.boxed h.bb,h.below.trans hb⟩
theorem WriI.grow (h:WriI w b1 b Bs m va out W) (hb:qL W W'):WriI w b1 b Bs m va out W':=h.kept (zac hb) (hb.mono h.below.size)
theorem WriI.more (h:WriI w b1 b Bs m va out W) (hd:IsBuilderF 230 5 w.heap.size b (byteCells out') W') (hb:zB w.heap.size W W') (hk:OthersKept 5 (some b) W W'):WriI w b1 b Bs m va out' W':=
 ⟨zms h.bd hk h.st (by decide) (by decide),hd,zms h.bd hk h.bb (by decide) (by decide),h.below.trans hb⟩
end
theorem zhy:∀c,repeatL [48] c=List.replicate c 48
 |0=>rfl
 |c+1=>by rw[repeatL,zhy c];rfl
def zdt (m:Bool) (l:List Nat) (k:Nat):List UInt8:=(if m then[45] else[])++(if k=0 then[] else zD (valL B9 (l.drop (l.length-k))))
theorem zg9 (m:Bool) (l:List Nat):zdt m l 0=(if m then[45] else[]):=by simp[zdt]
theorem zgt (m:Bool) (l:List Nat) {k:Nat} (h:k≠0):zdt m l k=(if m then[45] else[])++zD (valL B9 (l.drop (l.length-k))):=by simp[zdt,h]
theorem zl7 (m:Bool) {l:List Nat} (h:0<l.length):zdt m l 0++zD (l[l.length-1]?.getD 0)=zdt m l 1:=by
 rw[zg9,zgt m l (by omega),zdu l (l.length-1) B9 (by omega),List.drop_of_length_le (by omega)];simp[valL,show l.length-1<l.length by omega]
theorem znh (m:Bool) {n k:Nat} (hk:k<(zaa B9 n).length) (h0:k≠0):
 (zdt m (zaa B9 n) k++List.replicate (9-(zD ((zaa B9 n)[(zaa B9 n).length-1-k]?.getD 0)).length) 48)++zD ((zaa B9 n)[(zaa B9 n).length-1-k]?.getD 0)=zdt m (zaa B9 n) (k+1):=by
 have hs:=zak (B:=B9) (by decide) n;have hx:=zaj hs (by decide) ((zaa B9 n).length-1-k);have hpos:=zpv (B:=B9) (by decide) (n:=n) (k:=(zaa B9 n).length-k) (by omega);have hw:=zut (p:=9) hs ((zaa B9 n).length-1-k) (by omega) (by rw[show(zaa B9 n).length-1-k+1=(zaa B9 n).length-k by omega];exact hpos);rw[zgt m _ h0,zgt m _ (by omega),show(zaa B9 n).length-(k+1)=(zaa B9 n).length-1-k by omega];have hw':zD (valL B9 ((zaa B9 n).drop ((zaa B9 n).length-1-k)))=zD (valL B9 ((zaa B9 n).drop ((zaa B9 n).length-k)))++padD 9 ((zaa B9 n)[(zaa B9 n).length-1-k]?.getD 0):=by
  rw[show(zaa B9 n).length-k=(zaa B9 n).length-1-k+1 by omega];exact hw
 rw[hw',zjv 9 _ (by omega) hx];simp[yL]
theorem zo2 (m:Bool) {n:Nat} (h:0<n):zdt m (zaa B9 n) (zaa B9 n).length=zE (if m then-(n:Int) else n):=by
 have hl:(zaa B9 n).length≠0:=λe=>by have:=(zbd (B:=B9) (by decide) n).1 (List.length_eq_zero_iff.1 e);omega
 rw[zgt m _ hl,Nat.sub_self,List.drop_zero,zam (by decide)];cases m
 ·simp[Str.zad]
 ·simp[Str.zga n h]
theorem zo3 (m:Bool) (n k:Nat) (h0:0<n):(zdt m (zaa B9 n) k).length<=9*(zaa B9 n).length+1:=by
 have h3:(if m then[45] else[]:List UInt8).length<=1:=by cases m<;>simp
 by_cases hk:k=0
 ·subst hk;rw[zg9];omega
 ·rw[zgt m _ hk,zU]
  by_cases hl:(zaa B9 n).length=0
  ·have:=(zbd (B:=B9) (by decide) n).1 (List.length_eq_zero_iff.1 hl)
   omega
  ·have h1:=zb6 (zg5 (zak (B:=B9) (by decide) n) ((zaa B9 n).length-k))
   have h2:B9^((zaa B9 n).drop ((zaa B9 n).length-k)).length<=B9^(zaa B9 n).length:=yF (by decide) (by simp);have h4:=(zaf (valL B9 ((zaa B9 n).drop ((zaa B9 n).length-k))) (9*(zaa B9 n).length) (by omega)).2 (by rw[Nat.pow_mul];exact Nat.lt_of_lt_of_le h1 h2);omega
theorem zuw (m:Bool) (va:Value) (w:zA) (ha:Sl w va (([]:List Nat).map I)):
 qJ 186 #[.agg #[.bool m,va]] w (St [48]):=by
 obtain⟨pa,ca,rfl, -⟩:=ha;refine(callsIn_wide (n:=3)).1 ?_;refine callsIn_of_wp_marks Tryz.func186 rfl trivial ?_ rfl;simp only[Tryz.ntmps186,zZ,yA,List.length_nil,Nat.reduceAdd,Nat.reduceSub,Array.replicate_succ,Array.replicate_zero,List.push_toArray,List.append_toArray,yI,yM];gi_wp2;exact⟨.string ⟨#[48]⟩,by simp[results,Tryz.f186,go_sem],rfl,(zM _ w).alloc (zN _) _⟩
theorem zwp (m:Bool) (va:Value) (n:Nat) (z:Int) (hz:z=if m then-(n:Int) else n) (w:zA) (hw:Wd w) (ha:Sl w va ((zaa B9 n).map I)) (h0:0<n) (hlen:(zaa B9 n).length<=1000):
 qJ 186 #[.agg #[.bool m,va]] w (St (zE z)):=by
 have HZ:=hid hz;clear hz;obtain⟨pa,ca,rfl, -⟩:=id ha;simp only[zV] at*
 have HA:=hid ha;clear ha;have hl0:0<(zaa B9 n).length:=Nat.pos_of_ne_zero λe=>by have:=(zbd (B:=B9) (by decide) n).1 (List.length_eq_zero_iff.1 e);omega
 obtain⟨len,hL⟩:=zzX ((zaa B9 n).length);rw[<-hL] at HA hl0 hlen⊢;have HL:=hid hL;clear hL;have HW:=hid hw;clear hw;have hne:((len:Int)==0)=false:=by rw[beq_eq_false_iff_ne];omega
 refine(callsIn_wide (n:=3)).1 ?_;refine callsIn_of_wp_marks Tryz.func186 rfl trivial ?_ rfl;simp only[Tryz.ntmps186,zZ,yA,List.length_nil,Nat.reduceAdd,Nat.reduceSub,Array.replicate_succ,Array.replicate_zero,List.push_toArray,List.append_toArray,yI,yM];cases m
 ·gi_wp2_with (refine⟨trivial,?_⟩;gi_at_call 199;refine(callsIn_wide.2 (zhu _ _ _ _ _ rfl)).mono ?_;rintro e w' ⟨rfl,rfl⟩)
  have hI:WriI w w.heap.size (w.heap.size+1) (w.heap.size+1+1) false (.slice pa len ca) (zdt false (zaa B9 n) 0) (((w.alloc (.cells #[.bool false,.slice pa len ca] 150)).alloc (.cells #[.pointer none,.slice none 0 0] 230)).alloc (.cells #[.slice pa len ca] 39)):=by
   have h1:=zl5 (w.alloc (.cells #[.bool false,.slice pa len ca] 150)) w.heap.size (by simp);have h2:=Boxed.new ((w.alloc (.cells #[.bool false,.slice pa len ca] 150)).alloc (.cells #[.pointer none,.slice none 0 0] 230)) 39 (.slice pa len ca);simp only[zH] at h1 h2;refine⟨?_,by rw[zg9];exact h1.alloc _,h2,(((zM _ w).alloc (zN _) _).alloc (by simp) _).alloc (by simp;omega) _⟩;exact(Below.heap_alloc _ _ _ (by simp only[zH];omega)).trans ((Below.heap_alloc _ _ _ (by simp only[zH];omega)).trans (zG w _))
  generalize (((w.alloc (.cells #[.bool false,.slice pa len ca] 150)).alloc (.cells #[.pointer none,.slice none 0 0] 230)).alloc (.cells #[.slice pa len ca] 39))=W5 at*
  obtain⟨Bs,hBs⟩:=zzX (w.heap.size+1+1);rw[<-hBs] at hI⊢;clear hBs;have hW5:=hI.below.size
  refine zkt Bs len ca pa (λi x=>x=(((zaa B9 n)[i]?.getD 0:Nat):Int)) (RdSl Bs (.slice pa len ca) (zaa B9 n)) (by omega)
   (λW h=>by have:=RdSl.read (l:=zaa B9 n) (cap:=ca) (p:=pa) (by rw[<-HL.out];exact h);rw[<-HL.out] at this;exact this) rfl rfl (B:=w.heap.size) hI.below.size
   (λk W=>WriI w w.heap.size (w.heap.size+1) Bs false (.slice pa len ca) (zdt false (zaa B9 n) k) W) (λ_ _ _=>False)
   (λk W W' h hk hb=>h.kept hk hb) (λ_ _ _ _ h _ _=>h) (λk W h=>⟨h.bb.cell,HA.out.below h.below⟩) hI ?_ ?assignfalse ?bodyfalse ?donefalse ?stopfalse
  case stopfalse=>exact λ_ _ _ _ _ h _=>h.elim
  case assignfalse=>
   intro lp j x W K hK;gi_wp2;exact hK
  case bodyfalse=>
   rintro lp k j x W hlp-hI hk hj hx;have hxs:=zaj (zak (B:=B9) (by decide) n) (by decide) j;obtain⟨y,hy⟩:=zzX ((zaa B9 n)[j]?.getD 0);rw[<-hy] at hx hxs;subst hx;have hy9:y<1000000000:=hxs;have HY:=hid hy;clear hy hxs;have hsi:(zD y).length<=9:=(zaf y 9 (by omega)).2 hy9;have hsi1:1<=(zD y).length:=by have:=zbn (y:Int);unfold digs at this;simpa using this
   have hit:=λW hW=>zb3 (y:Int) (by omega) (by omega) W hW;rw[Str.zad] at hit;have HIT:=hid hit;clear hit;obtain⟨s,hs⟩:=zzX (⟨(zD y).toArray⟩:ByteArray);have hsz:s.size=(zD y).length:=by rw[hs];show(zD y).toArray.size=_;simp
   rw[<-hs] at HIT;have HS:=hid hs;clear hs;have hs9:s.size<=9:=by omega
   have hs1:1<=s.size:=by omega
   have HSZ:=hid hsz;clear hsz hsi hsi1;have hol:=zo3 false n k h0;rw[<-HL.out] at hol;have cs:=hI.st;have c1:W.cell? ⟨w.heap.size,1,none⟩=some (.slice pa len ca):=by simp[World.cell?,cs]
   clear cs;gi_wp2_with (refine⟨trivial,?_⟩;gi_at_call 33;refine(CallsIn.inRound lp (callsIn_wide.2 (HIT.out W (HW.out.below hI.below)))).mono ?_);rintro e W1 ⟨rfl,hb1⟩;have hI1:=hI.grow hb1;have kW1:=(za0 hb1).from W5.heap.size;clear c1 hb1;have cs:=hI1.st;have c1:W1.cell? ⟨w.heap.size,1,none⟩=some (.slice pa len ca):=by simp[World.cell?,cs]
   clear cs;have hws:=λbs W h1 h2 h3=>Tryz.WriteString_k w.heap.size (w.heap.size+1) (byteCells bs) s W h1 h2 h3;simp only[strCells_eq,<-byteCells_append] at hws;rw[show s.data.toList=zD y by rw[HS.out]] at hws;have HWS:=hid hws;clear hws;by_cases hk0:k=0
   ·have hjl:¬(j:Int)<(len:Int)-1:=by omega
    gi_wp2_with (refine⟨trivial,?_⟩;gi_at_call 189;refine(CallsIn.inRound lp (callsIn_wide.2 (HWS.out _ W1 hI1.bd (by rw[byteCells_length];omega) hI1.below.size))).mono ?_);rintro e W2 ⟨rfl,hbd,hb2,hk2⟩;have hI2:=hI1.more (.inr hbd) hb2 hk2;have kW2:=kW1.trans (zcy hI1.bd hb2 hk2 W5.heap.size);clear hbd hb2 hk2 c1 kW1;have HI2:=hid hI2;clear hI2;have KW2:=hid kW2;clear kW2;have HK0:=hid hk0;clear hk0 hI hI1;have HJ:=hid hj;clear hj;gi_wp2;refine⟨KW2.out,?_⟩;have hf:=HI2.out;have e:=zl7 false (l:=zaa B9 n) (by rw[<-HL.out];omega);rw[HY.out,HJ.out,HK0.out,HL.out,Nat.sub_zero,e,<-HL.out] at hf;rw[HK0.out];exact hf
   ·have hjl:(j:Int)<(len:Int)-1:=by omega
    obtain⟨c,hc⟩:=zzX (9-s.size);have hci:(9:Int)-s.size=(c:Int):=by omega
    have hrp:=λW=>Tryz.strings_Repeat ⟨#[48]⟩ c W (by omega) (by show 1*c<=_;omega);rw[show(⟨#[48]⟩:ByteArray).data.toList=[48] from rfl,<-hci] at hrp;obtain⟨z,hz⟩:=zzX (⟨(repeatL [48] c).toArray⟩:ByteArray);rw[<-hz] at hrp;have HRP:=hid hrp;clear hrp;have hwz:=λbs W h1 h2 h3=>Tryz.WriteString_k w.heap.size (w.heap.size+1) (byteCells bs) z W h1 h2 h3;simp only[strCells_eq,<-byteCells_append] at hwz;rw[show z.data.toList=List.replicate c 48 by rw[hz];exact zhy c] at hwz;have HWZ:=hid hwz;clear hwz;have hzs:z.size=c:=by rw[hz];show(repeatL [48] c).toArray.size=_;rw[zhy];simp
    have HZS:=hid hzs;clear hzs hz;have HC:=hid hc;have HCI:=hid hci;have hc9:c<=9:=by omega
    clear hc hci;gi_wp2_with (refine⟨trivial,?_⟩;gi_at_call 125;refine(CallsIn.inRound lp (callsIn_wide.2 (HRP.out W1))).mono ?_);rintro e W2 ⟨rfl,hb2⟩;have hI2:=hI1.grow hb2;have kW2:=kW1.trans ((za0 hb2).from W5.heap.size);clear hb2 c1 kW1 hI1 hI;gi_wp2_with (refine⟨trivial,?_⟩;gi_at_call 189;refine(CallsIn.inRound lp (callsIn_wide.2 (HWZ.out _ W2 hI2.bd (by rw[byteCells_length,HZS.out];omega) hI2.below.size))).mono ?_);rintro e W3 ⟨rfl,hbd,hb3,hk3⟩;have hI3:=hI2.more (.inr hbd) hb3 hk3;have kW3:=kW2.trans (zcy hI2.bd hb3 hk3 W5.heap.size);clear hbd hb3 hk3 kW2 hI2;gi_wp2_with (refine⟨trivial,?_⟩;gi_at_call 189;refine(CallsIn.inRound lp (callsIn_wide.2 (HWS.out _ W3 hI3.bd (by rw[byteCells_length,zU,List.length_replicate];omega) hI3.below.size))).mono ?_);rintro e W4 ⟨rfl,hbd,hb4,hk4⟩;have hI4:=hI3.more (.inr hbd) hb4 hk4;have kW4:=kW3.trans (zcy hI3.bd hb4 hk4 W5.heap.size);clear hbd hb4 hk4 kW3 hI3;have HI4:=hid hI4;clear hI4;have KW4:=hid kW4;clear kW4;have HK0:=hid hk0;clear hk0;have HJ:=hid hj;clear hj;gi_wp2;refine⟨KW4.out,?_⟩;have hf:=HI4.out;have e:=znh false (n:=n) (k:=k) (by rw[<-HL.out];exact hk) HK0.out;rw[HC.out,HSZ.out,HY.out,HJ.out,HL.out,e,<-HL.out] at hf;exact hf
  case donefalse=>
   rintro D W hD hI hK;have hout:=zo2 false h0;have hz:=HZ.out;simp at hz;simp at hout;rw[<-HL.out,<-hz] at hout;clear hz;have hd:=hI.bd;have hst:=Tryz.String_k w.heap.size (w.heap.size+1) (zdt false (zaa B9 n) len) W hd hI.below.size;rw[hout] at hst;have HST:=hid hst;clear hst hout;have HI:=hid hI;have HK:=hid hK;clear hK;clear hd hI;gi_wp2_with (refine⟨trivial,?_⟩;gi_at_call 191;refine(callsIn_wide.2 HST.out).mono ?_);rintro e W9 ⟨rfl,hx9,hb9,hk9⟩;clear hx9;have hK9:=(zcy HI.out.bd hb9 hk9 0).same D _ (zR _) HK.out rfl;have HK9:=hid hK9;clear hK9;have HB9:=hid (HI.out.below.trans hb9);clear hb9 hk9;gi_wp2;refine⟨by simp,.inl ⟨_,_,rfl,run_takeDeferred HK9.out,?_⟩⟩;exact⟨_,by simp[results,Tryz.f186,go_sem],rfl,zby HB9.out (by have:=Below.size HI.out.below;omega) HK9.out⟩
 ·have hwb:=λW h1 h2=>Tryz.WriteByte_k w.heap.size (w.heap.size+1) (byteCells []) 45 W h1 (by simp[byteCells]) h2
  have HWB:=hid hwb;clear hwb;have h1:=zl5 (w.alloc (.cells #[.bool true,.slice pa len ca] 150)) w.heap.size (by simp);simp only[zH] at h1;gi_wp2_with (refine⟨trivial,?_⟩;gi_at_call 250;refine(callsIn_wide.2 (HWB.out _ h1 (by simp only[zH];omega))).mono ?_);rintro e w1 rfl hbd hb1 hk1;have hS:w1.heap[w.heap.size]? =some (.cells #[.bool true,.slice pa len ca] 150 (0,0)):=zms h1 hk1 ((Below.heap_alloc _ _ _ (by simp)).trans (zG w _)) (by decide) (by decide);have hB1:qL w w1:=(((zM _ w).alloc (zN _) _).alloc (by simp) _).trans hb1;have cs1:w1.cell? ⟨w.heap.size,1,none⟩=some (.slice pa len ca):=by simp[World.cell?,hS]
  clear h1 hk1 hb1;gi_wp2_with (refine⟨trivial,?_⟩;gi_at_call 199;refine(callsIn_wide.2 (zhu _ _ _ _ _ rfl)).mono ?_;rintro e w' ⟨rfl,rfl⟩);have hI:WriI w w.heap.size (w.heap.size+1) w1.heap.size true (.slice pa len ca) (zdt true (zaa B9 n) 0) (w1.alloc (.cells #[.slice pa len ca] 39)):=
   ⟨(Below.heap_alloc _ _ _ (Array.getElem?_eq_some_iff.1 hS).1).trans hS,by rw[zg9];exact IsBuilderF.alloc (.inr hbd) _,Boxed.new w1 _ _,hB1.alloc hB1.size _⟩
  clear hS cs1 hB1 hbd;generalize w1.alloc (.cells #[.slice pa len ca] 39)=W5 at*
  generalize w1.heap.size=Bs at*
  have hW5:=hI.below.size
  refine zkt Bs len ca pa (λi x=>x=(((zaa B9 n)[i]?.getD 0:Nat):Int)) (RdSl Bs (.slice pa len ca) (zaa B9 n)) (by omega)
   (λW h=>by have:=RdSl.read (l:=zaa B9 n) (cap:=ca) (p:=pa) (by rw[<-HL.out];exact h);rw[<-HL.out] at this;exact this) rfl rfl (B:=w.heap.size) hI.below.size
   (λk W=>WriI w w.heap.size (w.heap.size+1) Bs true (.slice pa len ca) (zdt true (zaa B9 n) k) W) (λ_ _ _=>False)
   (λk W W' h hk hb=>h.kept hk hb) (λ_ _ _ _ h _ _=>h) (λk W h=>⟨h.bb.cell,HA.out.below h.below⟩) hI ?_ ?assigntrue ?bodytrue ?donetrue ?stoptrue
  case stoptrue=>exact λ_ _ _ _ _ h _=>h.elim
  case assigntrue=>
   intro lp j x W K hK;gi_wp2;exact hK
  case bodytrue=>
   rintro lp k j x W hlp-hI hk hj hx;have hxs:=zaj (zak (B:=B9) (by decide) n) (by decide) j;obtain⟨y,hy⟩:=zzX ((zaa B9 n)[j]?.getD 0);rw[<-hy] at hx hxs;subst hx;have hy9:y<1000000000:=hxs;have HY:=hid hy;clear hy hxs;have hsi:(zD y).length<=9:=(zaf y 9 (by omega)).2 hy9;have hsi1:1<=(zD y).length:=by have:=zbn (y:Int);unfold digs at this;simpa using this
   have hit:=λW hW=>zb3 (y:Int) (by omega) (by omega) W hW;rw[Str.zad] at hit;have HIT:=hid hit;clear hit;obtain⟨s,hs⟩:=zzX (⟨(zD y).toArray⟩:ByteArray);have hsz:s.size=(zD y).length:=by rw[hs];show(zD y).toArray.size=_;simp
   rw[<-hs] at HIT;have HS:=hid hs;clear hs;have hs9:s.size<=9:=by omega
   have hs1:1<=s.size:=by omega
   have HSZ:=hid hsz;clear hsz hsi hsi1;have hol:=zo3 true n k h0;rw[<-HL.out] at hol;have cs:=hI.st;have c1:W.cell? ⟨w.heap.size,1,none⟩=some (.slice pa len ca):=by simp[World.cell?,cs]
   clear cs;gi_wp2_with (refine⟨trivial,?_⟩;gi_at_call 33;refine(CallsIn.inRound lp (callsIn_wide.2 (HIT.out W (HW.out.below hI.below)))).mono ?_);rintro e W1 ⟨rfl,hb1⟩;have hI1:=hI.grow hb1;have kW1:=(za0 hb1).from W5.heap.size;clear c1 hb1;have cs:=hI1.st;have c1:W1.cell? ⟨w.heap.size,1,none⟩=some (.slice pa len ca):=by simp[World.cell?,cs]
   clear cs;have hws:=λbs W h1 h2 h3=>Tryz.WriteString_k w.heap.size (w.heap.size+1) (byteCells bs) s W h1 h2 h3;simp only[strCells_eq,<-byteCells_append] at hws;rw[show s.data.toList=zD y by rw[HS.out]] at hws;have HWS:=hid hws;clear hws;by_cases hk0:k=0
   ·have hjl:¬(j:Int)<(len:Int)-1:=by omega
    gi_wp2_with (refine⟨trivial,?_⟩;gi_at_call 189;refine(CallsIn.inRound lp (callsIn_wide.2 (HWS.out _ W1 hI1.bd (by rw[byteCells_length];omega) hI1.below.size))).mono ?_);rintro e W2 ⟨rfl,hbd,hb2,hk2⟩;have hI2:=hI1.more (.inr hbd) hb2 hk2;have kW2:=kW1.trans (zcy hI1.bd hb2 hk2 W5.heap.size);clear hbd hb2 hk2 c1 kW1;have HI2:=hid hI2;clear hI2;have KW2:=hid kW2;clear kW2;have HK0:=hid hk0;clear hk0 hI hI1;have HJ:=hid hj;clear hj;gi_wp2;refine⟨KW2.out,?_⟩;have hf:=HI2.out;have e:=zl7 true (l:=zaa B9 n) (by rw[<-HL.out];omega);rw[HY.out,HJ.out,HK0.out,HL.out,Nat.sub_zero,e,<-HL.out] at hf;rw[HK0.out];exact hf
   ·have hjl:(j:Int)<(len:Int)-1:=by omega
    obtain⟨c,hc⟩:=zzX (9-s.size);have hci:(9:Int)-s.size=(c:Int):=by omega
    have hrp:=λW=>Tryz.strings_Repeat ⟨#[48]⟩ c W (by omega) (by show 1*c<=_;omega);rw[show(⟨#[48]⟩:ByteArray).data.toList=[48] from rfl,<-hci] at hrp;obtain⟨z,hz⟩:=zzX (⟨(repeatL [48] c).toArray⟩:ByteArray);rw[<-hz] at hrp;have HRP:=hid hrp;clear hrp;have hwz:=λbs W h1 h2 h3=>Tryz.WriteString_k w.heap.size (w.heap.size+1) (byteCells bs) z W h1 h2 h3;simp only[strCells_eq,<-byteCells_append] at hwz;rw[show z.data.toList=List.replicate c 48 by rw[hz];exact zhy c] at hwz;have HWZ:=hid hwz;clear hwz;have hzs:z.size=c:=by rw[hz];show(repeatL [48] c).toArray.size=_;rw[zhy];simp
    have HZS:=hid hzs;clear hzs hz;have HC:=hid hc;have HCI:=hid hci;have hc9:c<=9:=by omega
    clear hc hci;gi_wp2_with (refine⟨trivial,?_⟩;gi_at_call 125;refine(CallsIn.inRound lp (callsIn_wide.2 (HRP.out W1))).mono ?_);rintro e W2 ⟨rfl,hb2⟩;have hI2:=hI1.grow hb2;have kW2:=kW1.trans ((za0 hb2).from W5.heap.size);clear hb2 c1 kW1 hI1 hI;gi_wp2_with (refine⟨trivial,?_⟩;gi_at_call 189;refine(CallsIn.inRound lp (callsIn_wide.2 (HWZ.out _ W2 hI2.bd (by rw[byteCells_length,HZS.out];omega) hI2.below.size))).mono ?_);rintro e W3 ⟨rfl,hbd,hb3,hk3⟩;have hI3:=hI2.more (.inr hbd) hb3 hk3;have kW3:=kW2.trans (zcy hI2.bd hb3 hk3 W5.heap.size);clear hbd hb3 hk3 kW2 hI2;gi_wp2_with (refine⟨trivial,?_⟩;gi_at_call 189;refine(CallsIn.inRound lp (callsIn_wide.2 (HWS.out _ W3 hI3.bd (by rw[byteCells_length,zU,List.length_replicate];omega) hI3.below.size))).mono ?_);rintro e W4 ⟨rfl,hbd,hb4,hk4⟩;have hI4:=hI3.more (.inr hbd) hb4 hk4;have kW4:=kW3.trans (zcy hI3.bd hb4 hk4 W5.heap.size);clear hbd hb4 hk4 kW3 hI3;have HI4:=hid hI4;clear hI4;have KW4:=hid kW4;clear kW4;have HK0:=hid hk0;clear hk0;have HJ:=hid hj;clear hj;gi_wp2;refine⟨KW4.out,?_⟩;have hf:=HI4.out;have e:=znh true (n:=n) (k:=k) (by rw[<-HL.out];exact hk) HK0.out;rw[HC.out,HSZ.out,HY.out,HJ.out,HL.out,e,<-HL.out] at hf;exact hf
  case donetrue=>
   rintro D W hD hI hK;have hout:=zo2 true h0;have hz:=HZ.out;simp at hz;simp at hout;rw[<-HL.out,<-hz] at hout;clear hz;have hd:=hI.bd;have hst:=Tryz.String_k w.heap.size (w.heap.size+1) (zdt true (zaa B9 n) len) W hd hI.below.size;rw[hout] at hst;have HST:=hid hst;clear hst hout;have HI:=hid hI;have HK:=hid hK;clear hK;clear hd hI;gi_wp2_with (refine⟨trivial,?_⟩;gi_at_call 191;refine(callsIn_wide.2 HST.out).mono ?_);rintro e W9 ⟨rfl,hx9,hb9,hk9⟩;clear hx9;have hK9:=(zcy HI.out.bd hb9 hk9 0).same D _ (zR _) HK.out rfl;have HK9:=hid hK9;clear hK9;have HB9:=hid (HI.out.below.trans hb9);clear hb9 hk9;gi_wp2;refine⟨by simp,.inl ⟨_,_,rfl,run_takeDeferred HK9.out,?_⟩⟩;exact⟨_,by simp[results,Tryz.f186,go_sem],rfl,zby HB9.out (by have:=Below.size HI.out.below;omega) HK9.out⟩
theorem zo4 (m:Bool) (va:Value) (n:Nat) (w:zA) (hw:Wd w) (ha:Sl w va ((zaa B9 n).map I)) (hlen:(zaa B9 n).length<=1000):
 qJ 186 #[.agg #[.bool m,va]] w (St (zE (if m then-(n:Int) else n))):=by
 rcases Nat.eq_zero_or_pos n with rfl|h
 ·rw[zaz] at ha
  refine zzM (zuw m va w ha) λw' h=>?_;exact⟨by cases m<;>simp[zb9],h⟩
 ·exact zwp m va n _ rfl w hw ha h hlen
def sgn (m:Bool) (n:Nat):Int:=if m then-(n:Int) else n
theorem zkw (n:Nat):sgn false n=n:=by simp[sgn]
theorem zxb (n:Nat):sgn true n= -(n:Int):=by simp[sgn]
theorem zge (m:Bool) (n:Nat):(sgn m n).natAbs=n:=by cases m<;>simp[sgn]
theorem zcs (x:Int):sgn (decide (x<0)) x.natAbs=x:=by
 unfold sgn;by_cases h:x<0
 ·simp[h];omega
 ·simp[h];omega
theorem ztv (x:Int):sgn (!decide (x<0)) x.natAbs= -x:=by
 unfold sgn;by_cases h:x<0
 ·simp[h];omega
 ·simp[h];omega
theorem zux {n k:Nat} (hk:0<k) (h:(zD n).length<=9*k):(zaa B9 n).length<=k:=by
 refine zfv (by decide) ?_;rw[show B9=10^9 from rfl,<-Nat.pow_mul];exact(zaf n (9*k) (by omega)).1 h
def resL (z:Int):List UInt8:=if digs z<=300 then zE z else[]
def resE (z:Int):Int:=if digs z<=300 then 0 else 4
theorem zcf {z:Int} (h:digs z<=300):resL z=zE z:=if_pos h
theorem zcg {z:Int} (h:digs z<=300):resE z=0:=if_pos h
theorem zhz {x y:Int} {k:Nat} (hk:0<k) (hx:digs x<=k) (hy:digs y<=k):digs (x+y)<=k+1:=by
 rw[za3 _ _ (by omega),yO];rw[za3 _ _ hk] at hx hy;have:=Int.natAbs_add_le x y;omega
theorem zy1 (x:Int):digs (-x)=digs x:=by unfold digs;rw[Int.natAbs_neg]
theorem zq2 {x y:Int} {i j:Nat} (hi:0<i) (hj:0<j) (hx:digs x<=i) (hy:digs y<=j):digs (x*y)<=i+j:=by
 rw[za3 _ _ (by omega),Int.natAbs_mul,Nat.pow_add];rw[za3 _ _ hi] at hx;rw[za3 _ _ hj] at hy;exact Nat.mul_lt_mul'' hx hy
theorem zb4 {z:Int} {k:Nat} (hk:0<k) (h:digs z<=9*k):(zaa B9 z.natAbs).length<=k:=zux hk h
theorem zwq (m:Bool) (va:Value) (n:Nat) (w:zA) (hw:Wd w) (ha:Sl w va ((zaa B9 n).map I)) (hlen:(zaa B9 n).length<=1000) (h:digs (sgn m n)<=300):
 qJ 124 #[.agg #[.bool m,va]] w (.tuple #[St (zE (sgn m n)),.int .i64 0]):=by
 obtain⟨pa,ca,rfl, -⟩:=id ha;simp only[zV] at*
 have hwr:=λW h1 h2=>zo4 m (.slice pa (zaa B9 n).length ca) n W h1 h2 hlen;have htp:=λW=>Tryz.strings_TrimPrefix ⟨(zE (sgn m n)).toArray⟩ ⟨#[45]⟩ W;rw[show(⟨(zE (sgn m n)).toArray⟩:ByteArray).data.toList=zE (sgn m n) from rfl,show(⟨#[45]⟩:ByteArray).data.toList=[45] from rfl,zbi] at htp;obtain⟨s,hs⟩:=zzX (⟨(zD (sgn m n).natAbs).toArray⟩:ByteArray);have hsz:s.size=digs (sgn m n):=by rw[hs];show(zD (sgn m n).natAbs).toArray.size=_;simp[digs]
 rw[<-hs] at htp;change ∀W,_->_->zC _ _ _ _ (λe w'=>e=.returned (St (zE (sgn m n)))/\_) at hwr;generalize sgn m n=z at*
 have hsb:¬(300<(s.size:Int)):=by omega
 have hsb2:(s.size:Int)<=300:=by omega
 have HWR:=hid hwr;clear hwr;have HTP:=hid htp;clear htp;have HA:=hid ha;clear ha;have HW:=hid hw;clear hw hs hsz h;generalize (zaa B9 n).length=len at*
 go_enter Tryz.func124,Tryz.ntmps124;go_wp21;have hb0:qL w (w.alloc (.cells #[.bool m,.slice pa len ca] 150)):=(zM _ w).alloc (zN _) _;refine zzM (HWR.out _ (HW.out.below hb0) (HA.out.below hb0)) λw1 hb1=>?_;have hB:=hb0.trans (hb1.mono (by simp));clear hb0 hb1;go_wp21;refine(HTP.out w1).mono ?_;rintro e w2 ⟨rfl,rfl⟩;go_wp21;go_ret2;exact⟨rfl,hB⟩
theorem zsv (m:Bool) (va:Value) (n:Nat) (w:zA) (hw:Wd w) (ha:Sl w va ((zaa B9 n).map I)) (hlen:(zaa B9 n).length<=1000) (h:300<digs (sgn m n)):
 qJ 124 #[.agg #[.bool m,va]] w (.tuple #[St [],.int .i64 4]):=by
 obtain⟨pa,ca,rfl, -⟩:=id ha;simp only[zV] at*
 have hwr:=λW h1 h2=>zo4 m (.slice pa (zaa B9 n).length ca) n W h1 h2 hlen;have htp:=λW=>Tryz.strings_TrimPrefix ⟨(zE (sgn m n)).toArray⟩ ⟨#[45]⟩ W;rw[show(⟨(zE (sgn m n)).toArray⟩:ByteArray).data.toList=zE (sgn m n) from rfl,show(⟨#[45]⟩:ByteArray).data.toList=[45] from rfl,zbi] at htp;obtain⟨s,hs⟩:=zzX (⟨(zD (sgn m n).natAbs).toArray⟩:ByteArray);have hsz:s.size=digs (sgn m n):=by rw[hs];show(zD (sgn m n).natAbs).toArray.size=_;simp[digs]
 rw[<-hs] at htp;change ∀W,_->_->zC _ _ _ _ (λe w'=>e=.returned (St (zE (sgn m n)))/\_) at hwr;generalize sgn m n=z at*
 have hsb:(300<(s.size:Int)):=by omega
 have HWR:=hid hwr;clear hwr;have HTP:=hid htp;clear htp;have HA:=hid ha;clear ha;have HW:=hid hw;clear hw hs hsz h;generalize (zaa B9 n).length=len at*
 go_enter Tryz.func124,Tryz.ntmps124;go_wp21;have hb0:qL w (w.alloc (.cells #[.bool m,.slice pa len ca] 150)):=(zM _ w).alloc (zN _) _;refine zzM (HWR.out _ (HW.out.below hb0) (HA.out.below hb0)) λw1 hb1=>?_;have hB:=hb0.trans (hb1.mono (by simp));clear hb0 hb1;go_wp21;refine(HTP.out w1).mono ?_;rintro e w2 ⟨rfl,rfl⟩;go_wp21;go_ret2;exact⟨rfl,hB⟩
theorem zez (m:Bool) (va:Value) (n:Nat) (w:zA) (hw:Wd w) (ha:Sl w va ((zaa B9 n).map I)) (hlen:(zaa B9 n).length<=1000):
 qJ 124 #[.agg #[.bool m,va]] w (.tuple #[St (resL (sgn m n)),.int .i64 (resE (sgn m n))]):=by
 unfold resL resE;by_cases h:digs (sgn m n)<=300
 ·rw[if_pos h,if_pos h];exact zwq m va n w hw ha hlen h
 ·rw[if_neg h,if_neg h];exact zsv m va n w hw ha hlen (by omega)
end Go.Proofs.YtfoodcpnnmonhaaGreatDoor
