/- integer.write, result. -/
import Derived.Test.YtheinkfbiedidaaGreatDoorQ04
set_option maxRecDepth 100000
set_option maxHeartbeats 8000000
open Go renaming World → zA, Calls → zC
open Go.Lib renaming decDigits → zD, itoa → zE
open Go.Proofs.Tryz renaming prog → zF
open Go.World renaming alloc_heap_new → zG, size_alloc → zH
open Go.IntWalk renaming i64_in → zI
open Go.RowKit.Below renaming refl → zM, heap_setCell → yE
open Nat renaming le_refl → zN, le_trans → zO, lt_of_lt_of_le → zS, pos_of_ne_zero → yS
open List renaming length_append → zU, length_map → zV
open Int renaming natAbs_mul → yK
namespace Go.Proofs.YtheinkfbiedidaaGreatDoor
open Go.RowKit Go.Shelf Lib Str Limb
attribute [local go_sem] Oper.semAt_some
theorem zpw {W W':zA} (h:CellsKept W W') {B:Nat} {e:TypeId} {v:Value} {n:Nat} {xs:List Value} (ho:W.ownsRowF B e 1 v n xs):W'.ownsRowF B e 1 v n xs:=by
 obtain⟨h1,h2⟩:=ho;refine⟨h1,h2.imp id ?_⟩;rintro⟨g,cap,cur,fz,e1,e2,e3,e4⟩;exact⟨g,cap,cur,fz,e1,e2,h _ _ _ _ e3,e4⟩
theorem BuilderAtF.kept {W W':zA} (h:CellsKept W W') {T e:TypeId} {B b:Nat} {p:Value} {bs:List Value} (ho:BuilderAtF T e B b p bs W):BuilderAtF T e B b p bs W':=by
 obtain⟨h1,v,h2,h3,h4⟩:=ho;exact⟨h1,v,h _ _ _ _ h2,zpw h h3,h4⟩
theorem IsBuilderF.kept {W W':zA} (h:CellsKept W W') {T e:TypeId} {B b:Nat} {bs:List Value} (ho:IsBuilderF T e B b bs W):IsBuilderF T e B b bs W':=
 ho.imp (BuilderAtF.kept h) (BuilderAtF.kept h)
theorem zl5 (W:zA) (B:Nat) (hB:B<=W.heap.size):IsBuilderF 276 5 B W.heap.size (byteCells []) (W.alloc (.cells #[.pointer none,.slice none 0 0] 276)):=
 .inl ⟨hB,.slice none 0 0,zG _ _,⟨rfl,.inl ⟨rfl,rfl⟩⟩,by simp[Value.ownBlock]⟩
theorem zl6 {W:zA} {T e:TypeId} {B b:Nat} {bs:List Value} (h:IsBuilderF T e B b bs W):∃cs,W.heap[b]? =some (.cells cs T (0,0)):=by
 rcases h with⟨_,v,h,_⟩|⟨_,v,h,_⟩<;>exact⟨_,h⟩
theorem zcy {W W':zA} {T e:TypeId} {B b:Nat} {bs:List Value} (h:IsBuilderF T e B b bs W) (hb:Below B W W') (hk:OthersKept e (some b) W W') (B':Nat):KeepsFrom B' W W':=
 ⟨hb.size,λk o _ hko ho=>by
   refine hk k o hko (λe=>?_) (λc fz e=>by subst e;cases ho);cases e;obtain⟨cs,hcs⟩:=zl6 h;rw[hcs] at hko;cases hko;cases ho⟩
theorem zms {W W':zA} {T e t:TypeId} {B b k:Nat} {bs:List Value} {cs:Array Value} (h:IsBuilderF T e B b bs W) (hk:OthersKept e (some b) W W') (hb:W.heap[k]? =some (.cells cs t (0,0))) (h1:t≠T) (h2:t≠e):W'.heap[k]? =some (.cells cs t (0,0)):=by
 refine hk k _ hb (λe=>?_) (λc fz e=>by cases e;exact h2 rfl);cases e;obtain⟨cs',hcs⟩:=zl6 h;rw[hcs] at hb;cases hb;exact h1 rfl
structure WriI (w:zA) (b1 b Bs:Nat) (m:Bool) (va:Value) (out:List UInt8) (W:zA):Prop where
 st:W.heap[b1]? =some (.cells #[.bool m,va] 209 (0,0))
 bd:IsBuilderF 276 5 w.heap.size b (byteCells out) W
 bb:Boxed W Bs 181 va
 below:qL w W
section
variable {w W W':zA} {b1 b Bs:Nat} {m:Bool} {va:Value} {out out':List UInt8}
theorem WriI.kept (h:WriI w b1 b Bs m va out W) (hk:CellsKept W W') (hb:Below w.heap.size W W'):WriI w b1 b Bs m va out W':=
 ⟨hk _ _ _ _ h.st,IsBuilderF.kept hk h.bd,hk.boxed h.bb,h.below.trans hb⟩
theorem WriI.grow (h:WriI w b1 b Bs m va out W) (hb:qL W W'):WriI w b1 b Bs m va out W':=h.kept (zac hb) (hb.mono h.below.size)
theorem WriI.more (h:WriI w b1 b Bs m va out W) (hd:IsBuilderF 276 5 w.heap.size b (byteCells out') W') (hb:Below w.heap.size W W') (hk:OthersKept 5 (some b) W W'):WriI w b1 b Bs m va out' W':=
 ⟨zms h.bd hk h.st (by decide) (by decide),hd,zms h.bd hk h.bb (by decide) (by decide),h.below.trans hb⟩
end
theorem zhy:∀c,repeatL [48] c=List.replicate c 48
 |0=>rfl
 |c+1=>by rw[repeatL,zhy c];rfl
def zdt (m:Bool) (l:List Nat) (k:Nat):List UInt8:=(if m then[45] else[])++(if k=0 then[] else zD (valL B9 (l.drop (l.length-k))))
theorem zg9 (m:Bool) (l:List Nat):zdt m l 0=(if m then[45] else[]):=by simp[zdt]
theorem zgt (m:Bool) (l:List Nat) {k:Nat} (h:k≠0):zdt m l k=(if m then[45] else[])++zD (valL B9 (l.drop (l.length-k))):=by simp[zdt,h]
theorem zl7 (m:Bool) {l:List Nat} (h:0<l.length):zdt m l 0++zD (l[l.length-1]?.getD 0)=zdt m l 1:=by
 rw[zg9,zgt m l (by omega),zdu l (l.length-1) B9 (by omega),List.drop_of_length_le (by omega)];simp[valL,show l.length-1<l.length by omega]
theorem znh (m:Bool) {n k:Nat} (hk:k<(zaa B9 n).length) (h0:k≠0):
 (zdt m (zaa B9 n) k++List.replicate (9-(zD ((zaa B9 n)[(zaa B9 n).length-1-k]?.getD 0)).length) 48)++zD ((zaa B9 n)[(zaa B9 n).length-1-k]?.getD 0)=zdt m (zaa B9 n) (k+1):=by
 have hs:=zak (B:=B9) (by decide) n;have hx:=zaj hs (by decide) ((zaa B9 n).length-1-k);have hpos:=zpv (B:=B9) (by decide) (n:=n) (k:=(zaa B9 n).length-k) (by omega);have hw:=zut (p:=9) hs ((zaa B9 n).length-1-k) (by omega) (by rw[show(zaa B9 n).length-1-k+1=(zaa B9 n).length-k by omega];exact hpos);rw[zgt m _ h0,zgt m _ (by omega),show(zaa B9 n).length-(k+1)=(zaa B9 n).length-1-k by omega];have hw':zD (valL B9 ((zaa B9 n).drop ((zaa B9 n).length-1-k)))=zD (valL B9 ((zaa B9 n).drop ((zaa B9 n).length-k)))++padD 9 ((zaa B9 n)[(zaa B9 n).length-1-k]?.getD 0):=by
  rw[show(zaa B9 n).length-k=(zaa B9 n).length-1-k+1 by omega];exact hw
 rw[hw',zjv 9 _ (by omega) hx];simp[List.append_assoc]
theorem zo2 (m:Bool) {n:Nat} (h:0<n):zdt m (zaa B9 n) (zaa B9 n).length=zE (if m then-(n:Int) else n):=by
 have hl:(zaa B9 n).length≠0:=λe=>by have:=(zbd (B:=B9) (by decide) n).1 (List.length_eq_zero_iff.1 e);omega
 rw[zgt m _ hl,Nat.sub_self,List.drop_zero,zam (by decide)];cases m
 ·simp[Str.zad]
 ·simp[Str.zga n h]
theorem zo3 (m:Bool) (n k:Nat) (h0:0<n):(zdt m (zaa B9 n) k).length<=9*(zaa B9 n).length+1:=by
 have h3:(if m then[45] else[]:List UInt8).length<=1:=by cases m<;>simp
 by_cases hk:k=0
 ·subst hk;rw[zg9];omega
 ·rw[zgt m _ hk,zU]
  by_cases hl:(zaa B9 n).length=0
  ·have:=(zbd (B:=B9) (by decide) n).1 (List.length_eq_zero_iff.1 hl)
   omega
  ·have h1:=zb6 (zg5 (zak (B:=B9) (by decide) n) ((zaa B9 n).length-k))
   have h2:B9^((zaa B9 n).drop ((zaa B9 n).length-k)).length<=B9^(zaa B9 n).length:=Nat.pow_le_pow_right (by decide) (by simp);have h4:=(zaf (valL B9 ((zaa B9 n).drop ((zaa B9 n).length-k))) (9*(zaa B9 n).length) (by omega)).2 (by rw[Nat.pow_mul];exact zS h1 h2);omega
theorem zuw (m:Bool) (va:Value) (w:zA) (ha:Sl w va (([]:List Nat).map I)):
 qJ 222 #[.agg #[.bool m,va]] w (St [48]):=by
 obtain⟨pa,ca,rfl, -⟩:=ha;refine(callsIn_wide (n:=3)).1 ?_;refine callsIn_of_wp_marks Tryz.func222 rfl trivial ?_ rfl;simp only[Tryz.ntmps222,List.size_toArray,List.length_cons,List.length_nil,Nat.reduceAdd,Nat.reduceSub,Array.replicate_succ,Array.replicate_zero,List.push_toArray,List.append_toArray,List.nil_append,List.cons_append];gi_wp2;exact⟨.string ⟨#[48]⟩,by simp[results,Tryz.f222,go_sem],rfl,(zM _ w).alloc (zN _) _⟩
theorem zwp (m:Bool) (va:Value) (n:Nat) (z:Int) (hz:z=if m then-(n:Int) else n) (w:zA) (hw:Wd w) (ha:Sl w va ((zaa B9 n).map I)) (h0:0<n) (hlen:(zaa B9 n).length<=1000):
 qJ 222 #[.agg #[.bool m,va]] w (St (zE z)):=by
 have HZ:=hid hz;clear hz;obtain⟨pa,ca,rfl, -⟩:=id ha;simp only[zV] at*
 have HA:=hid ha;clear ha;have hl0:0<(zaa B9 n).length:=yS λe=>by have:=(zbd (B:=B9) (by decide) n).1 (List.length_eq_zero_iff.1 e);omega
 obtain⟨len,hL⟩:∃k,k=(zaa B9 n).length:=⟨_,rfl⟩;rw[<-hL] at HA hl0 hlen⊢;have HL:=hid hL;clear hL;have HW:=hid hw;clear hw;have hne:((len:Int)==0)=false:=by rw[beq_eq_false_iff_ne];omega
 refine(callsIn_wide (n:=3)).1 ?_;refine callsIn_of_wp_marks Tryz.func222 rfl trivial ?_ rfl;simp only[Tryz.ntmps222,List.size_toArray,List.length_cons,List.length_nil,Nat.reduceAdd,Nat.reduceSub,Array.replicate_succ,Array.replicate_zero,List.push_toArray,List.append_toArray,List.nil_append,List.cons_append];cases m
 ·gi_wp2_with (refine⟨trivial,?_⟩;gi_at_call 227;refine(callsIn_wide.2 (zhu _ _ _ _ _ rfl)).mono ?_;rintro e w' ⟨rfl,rfl⟩)
  have hI:WriI w w.heap.size (w.heap.size+1) (w.heap.size+1+1) false (.slice pa len ca) (zdt false (zaa B9 n) 0) (((w.alloc (.cells #[.bool false,.slice pa len ca] 209)).alloc (.cells #[.pointer none,.slice none 0 0] 276)).alloc (.cells #[.slice pa len ca] 181)):=by
   have h1:=zl5 (w.alloc (.cells #[.bool false,.slice pa len ca] 209)) w.heap.size (by simp);have h2:=Boxed.new ((w.alloc (.cells #[.bool false,.slice pa len ca] 209)).alloc (.cells #[.pointer none,.slice none 0 0] 276)) 181 (.slice pa len ca);simp only[zH] at h1 h2;refine⟨?_,by rw[zg9];exact h1.alloc _,h2,(((zM _ w).alloc (zN _) _).alloc (by simp) _).alloc (by simp;omega) _⟩;exact(Below.heap_alloc _ _ _ (by simp only[zH];omega)).trans ((Below.heap_alloc _ _ _ (by simp only[zH];omega)).trans (zG w _))
  generalize (((w.alloc (.cells #[.bool false,.slice pa len ca] 209)).alloc (.cells #[.pointer none,.slice none 0 0] 276)).alloc (.cells #[.slice pa len ca] 181))=W5 at*
  obtain⟨Bs,hBs⟩:∃Bs,Bs=w.heap.size+1+1:=⟨_,rfl⟩;rw[<-hBs] at hI⊢;clear hBs;have hW5:=hI.below.size
  refine zkt Bs len ca pa (λi x=>x=(((zaa B9 n)[i]?.getD 0:Nat):Int)) (RdSl Bs (.slice pa len ca) (zaa B9 n)) (by omega)
   (λW h=>by have:=RdSl.read (l:=zaa B9 n) (cap:=ca) (p:=pa) (by rw[<-HL.out];exact h);rw[<-HL.out] at this;exact this) rfl rfl (B:=w.heap.size) hI.below.size
   (λk W=>WriI w w.heap.size (w.heap.size+1) Bs false (.slice pa len ca) (zdt false (zaa B9 n) k) W) (λ_ _ _=>False)
   (λk W W' h hk hb=>h.kept hk hb) (λ_ _ _ _ h _ _=>h) (λk W h=>⟨h.bb.cell,HA.out.below h.below⟩) hI ?_ ?assignfalse ?bodyfalse ?donefalse ?stopfalse
  case stopfalse=>exact λ_ _ _ _ _ h _=>h.elim
  case assignfalse=>
   intro lp j x W K hK;gi_wp2;exact hK
  case bodyfalse=>
   rintro lp k j x W hlp-hI hk hj hx;have hxs:=zaj (zak (B:=B9) (by decide) n) (by decide) j;obtain⟨y,hy⟩:∃y,y=(zaa B9 n)[j]?.getD 0:=⟨_,rfl⟩;rw[<-hy] at hx hxs;subst hx;have hy9:y<1000000000:=hxs;have HY:=hid hy;clear hy hxs;have hsi:(zD y).length<=9:=(zaf y 9 (by omega)).2 hy9;have hsi1:1<=(zD y).length:=by have:=zbn (y:Int);unfold digs at this;simpa using this
   have hit:=λW hW=>zb3 (y:Int) (by omega) (by omega) W hW;rw[Str.zad] at hit;have HIT:=hid hit;clear hit;obtain⟨s,hs⟩:∃s:ByteArray,s=⟨(zD y).toArray⟩:=⟨_,rfl⟩;have hsz:s.size=(zD y).length:=by rw[hs];show(zD y).toArray.size=_;simp
   rw[<-hs] at HIT;have HS:=hid hs;clear hs;have hs9:s.size<=9:=by omega
   have hs1:1<=s.size:=by omega
   have HSZ:=hid hsz;clear hsz hsi hsi1;have hol:=zo3 false n k h0;rw[<-HL.out] at hol;have cs:=hI.st;have c1:W.cell? ⟨w.heap.size,1,none⟩=some (.slice pa len ca):=by simp[World.cell?,cs]
   clear cs;gi_wp2_with (refine⟨trivial,?_⟩;gi_at_call 132;refine(CallsIn.inRound lp (callsIn_wide.2 (HIT.out W (HW.out.below hI.below)))).mono ?_);rintro e W1 ⟨rfl,hb1⟩;have hI1:=hI.grow hb1;have kW1:=(za0 hb1).from W5.heap.size;clear c1 hb1;have cs:=hI1.st;have c1:W1.cell? ⟨w.heap.size,1,none⟩=some (.slice pa len ca):=by simp[World.cell?,cs]
   clear cs;have hws:=λbs W h1 h2 h3=>Tryz.WriteString_k w.heap.size (w.heap.size+1) (byteCells bs) s W h1 h2 h3;simp only[strCells_eq,<-byteCells_append] at hws;rw[show s.data.toList=zD y by rw[HS.out]] at hws;have HWS:=hid hws;clear hws;by_cases hk0:k=0
   ·have hjl:¬(j:Int)<(len:Int)-1:=by omega
    gi_wp2_with (refine⟨trivial,?_⟩;gi_at_call 238;refine(CallsIn.inRound lp (callsIn_wide.2 (HWS.out _ W1 hI1.bd (by rw[byteCells_length];omega) hI1.below.size))).mono ?_);rintro e W2 ⟨rfl,hbd,hb2,hk2⟩;have hI2:=hI1.more (.inr hbd) hb2 hk2;have kW2:=kW1.trans (zcy hI1.bd hb2 hk2 W5.heap.size);clear hbd hb2 hk2 c1 kW1;have HI2:=hid hI2;clear hI2;have KW2:=hid kW2;clear kW2;have HK0:=hid hk0;clear hk0 hI hI1;have HJ:=hid hj;clear hj;gi_wp2;refine⟨KW2.out,?_⟩;have hf:=HI2.out;have e:=zl7 false (l:=zaa B9 n) (by rw[<-HL.out];omega);rw[HY.out,HJ.out,HK0.out,HL.out,Nat.sub_zero,e,<-HL.out] at hf;rw[HK0.out];exact hf
   ·have hjl:(j:Int)<(len:Int)-1:=by omega
    obtain⟨c,hc⟩:∃c,c=9-s.size:=⟨_,rfl⟩;have hci:(9:Int)-s.size=(c:Int):=by omega
    have hrp:=λW=>Tryz.strings_Repeat ⟨#[48]⟩ c W (by omega) (by show 1*c<=_;omega);rw[show(⟨#[48]⟩:ByteArray).data.toList=[48] from rfl,<-hci] at hrp;obtain⟨z,hz⟩:∃z:ByteArray,z=⟨(repeatL [48] c).toArray⟩:=⟨_,rfl⟩;rw[<-hz] at hrp;have HRP:=hid hrp;clear hrp;have hwz:=λbs W h1 h2 h3=>Tryz.WriteString_k w.heap.size (w.heap.size+1) (byteCells bs) z W h1 h2 h3;simp only[strCells_eq,<-byteCells_append] at hwz;rw[show z.data.toList=List.replicate c 48 by rw[hz];exact zhy c] at hwz;have HWZ:=hid hwz;clear hwz;have hzs:z.size=c:=by rw[hz];show(repeatL [48] c).toArray.size=_;rw[zhy];simp
    have HZS:=hid hzs;clear hzs hz;have HC:=hid hc;have HCI:=hid hci;have hc9:c<=9:=by omega
    clear hc hci;gi_wp2_with (refine⟨trivial,?_⟩;gi_at_call 181;refine(CallsIn.inRound lp (callsIn_wide.2 (HRP.out W1))).mono ?_);rintro e W2 ⟨rfl,hb2⟩;have hI2:=hI1.grow hb2;have kW2:=kW1.trans ((za0 hb2).from W5.heap.size);clear hb2 c1 kW1 hI1 hI;gi_wp2_with (refine⟨trivial,?_⟩;gi_at_call 238;refine(CallsIn.inRound lp (callsIn_wide.2 (HWZ.out _ W2 hI2.bd (by rw[byteCells_length,HZS.out];omega) hI2.below.size))).mono ?_);rintro e W3 ⟨rfl,hbd,hb3,hk3⟩;have hI3:=hI2.more (.inr hbd) hb3 hk3;have kW3:=kW2.trans (zcy hI2.bd hb3 hk3 W5.heap.size);clear hbd hb3 hk3 kW2 hI2;gi_wp2_with (refine⟨trivial,?_⟩;gi_at_call 238;refine(CallsIn.inRound lp (callsIn_wide.2 (HWS.out _ W3 hI3.bd (by rw[byteCells_length,zU,List.length_replicate];omega) hI3.below.size))).mono ?_);rintro e W4 ⟨rfl,hbd,hb4,hk4⟩;have hI4:=hI3.more (.inr hbd) hb4 hk4;have kW4:=kW3.trans (zcy hI3.bd hb4 hk4 W5.heap.size);clear hbd hb4 hk4 kW3 hI3;have HI4:=hid hI4;clear hI4;have KW4:=hid kW4;clear kW4;have HK0:=hid hk0;clear hk0;have HJ:=hid hj;clear hj;gi_wp2;refine⟨KW4.out,?_⟩;have hf:=HI4.out;have e:=znh false (n:=n) (k:=k) (by rw[<-HL.out];exact hk) HK0.out;rw[HC.out,HSZ.out,HY.out,HJ.out,HL.out,e,<-HL.out] at hf;exact hf
  case donefalse=>
   rintro D W hD hI hK;have hout:=zo2 false h0;have hz:=HZ.out;simp at hz;simp at hout;rw[<-HL.out,<-hz] at hout;clear hz;have hd:=hI.bd;have hst:=Tryz.String_k w.heap.size (w.heap.size+1) (zdt false (zaa B9 n) len) W hd hI.below.size;rw[hout] at hst;have HST:=hid hst;clear hst hout;have HI:=hid hI;have HK:=hid hK;clear hK;clear hd hI;gi_wp2_with (refine⟨trivial,?_⟩;gi_at_call 240;refine(callsIn_wide.2 HST.out).mono ?_);rintro e W9 ⟨rfl,hx9,hb9,hk9⟩;clear hx9;have hK9:=(zcy HI.out.bd hb9 hk9 0).same D _ (Nat.zero_le _) HK.out rfl;have HK9:=hid hK9;clear hK9;have HB9:=hid (HI.out.below.trans hb9);clear hb9 hk9;gi_wp2;refine⟨by simp,.inl ⟨_,_,rfl,run_takeDeferred HK9.out,?_⟩⟩;exact⟨_,by simp[results,Tryz.f222,go_sem],rfl,zby HB9.out (by have:=Below.size HI.out.below;omega) HK9.out⟩
 ·have hwb:=λW h1 h2=>Tryz.WriteByte_k w.heap.size (w.heap.size+1) (byteCells []) 45 W h1 (by simp[byteCells]) h2
  have HWB:=hid hwb;clear hwb;have h1:=zl5 (w.alloc (.cells #[.bool true,.slice pa len ca] 209)) w.heap.size (by simp);simp only[zH] at h1;gi_wp2_with (refine⟨trivial,?_⟩;gi_at_call 261;refine(callsIn_wide.2 (HWB.out _ h1 (by simp only[zH];omega))).mono ?_);rintro e w1 rfl hbd hb1 hk1;have hS:w1.heap[w.heap.size]? =some (.cells #[.bool true,.slice pa len ca] 209 (0,0)):=zms h1 hk1 ((Below.heap_alloc _ _ _ (by simp)).trans (zG w _)) (by decide) (by decide);have hB1:qL w w1:=(((zM _ w).alloc (zN _) _).alloc (by simp) _).trans hb1;have cs1:w1.cell? ⟨w.heap.size,1,none⟩=some (.slice pa len ca):=by simp[World.cell?,hS]
  clear h1 hk1 hb1;gi_wp2_with (refine⟨trivial,?_⟩;gi_at_call 227;refine(callsIn_wide.2 (zhu _ _ _ _ _ rfl)).mono ?_;rintro e w' ⟨rfl,rfl⟩);have hI:WriI w w.heap.size (w.heap.size+1) w1.heap.size true (.slice pa len ca) (zdt true (zaa B9 n) 0) (w1.alloc (.cells #[.slice pa len ca] 181)):=
   ⟨(Below.heap_alloc _ _ _ (Array.getElem?_eq_some_iff.1 hS).1).trans hS,by rw[zg9];exact IsBuilderF.alloc (.inr hbd) _,Boxed.new w1 _ _,hB1.alloc hB1.size _⟩
  clear hS cs1 hB1 hbd;generalize w1.alloc (.cells #[.slice pa len ca] 181)=W5 at*
  generalize w1.heap.size=Bs at*
  have hW5:=hI.below.size
  refine zkt Bs len ca pa (λi x=>x=(((zaa B9 n)[i]?.getD 0:Nat):Int)) (RdSl Bs (.slice pa len ca) (zaa B9 n)) (by omega)
   (λW h=>by have:=RdSl.read (l:=zaa B9 n) (cap:=ca) (p:=pa) (by rw[<-HL.out];exact h);rw[<-HL.out] at this;exact this) rfl rfl (B:=w.heap.size) hI.below.size
   (λk W=>WriI w w.heap.size (w.heap.size+1) Bs true (.slice pa len ca) (zdt true (zaa B9 n) k) W) (λ_ _ _=>False)
   (λk W W' h hk hb=>h.kept hk hb) (λ_ _ _ _ h _ _=>h) (λk W h=>⟨h.bb.cell,HA.out.below h.below⟩) hI ?_ ?assigntrue ?bodytrue ?donetrue ?stoptrue
  case stoptrue=>exact λ_ _ _ _ _ h _=>h.elim
  case assigntrue=>
   intro lp j x W K hK;gi_wp2;exact hK
  case bodytrue=>
   rintro lp k j x W hlp-hI hk hj hx;have hxs:=zaj (zak (B:=B9) (by decide) n) (by decide) j;obtain⟨y,hy⟩:∃y,y=(zaa B9 n)[j]?.getD 0:=⟨_,rfl⟩;rw[<-hy] at hx hxs;subst hx;have hy9:y<1000000000:=hxs;have HY:=hid hy;clear hy hxs;have hsi:(zD y).length<=9:=(zaf y 9 (by omega)).2 hy9;have hsi1:1<=(zD y).length:=by have:=zbn (y:Int);unfold digs at this;simpa using this
   have hit:=λW hW=>zb3 (y:Int) (by omega) (by omega) W hW;rw[Str.zad] at hit;have HIT:=hid hit;clear hit;obtain⟨s,hs⟩:∃s:ByteArray,s=⟨(zD y).toArray⟩:=⟨_,rfl⟩;have hsz:s.size=(zD y).length:=by rw[hs];show(zD y).toArray.size=_;simp
   rw[<-hs] at HIT;have HS:=hid hs;clear hs;have hs9:s.size<=9:=by omega
   have hs1:1<=s.size:=by omega
   have HSZ:=hid hsz;clear hsz hsi hsi1;have hol:=zo3 true n k h0;rw[<-HL.out] at hol;have cs:=hI.st;have c1:W.cell? ⟨w.heap.size,1,none⟩=some (.slice pa len ca):=by simp[World.cell?,cs]
   clear cs;gi_wp2_with (refine⟨trivial,?_⟩;gi_at_call 132;refine(CallsIn.inRound lp (callsIn_wide.2 (HIT.out W (HW.out.below hI.below)))).mono ?_);rintro e W1 ⟨rfl,hb1⟩;have hI1:=hI.grow hb1;have kW1:=(za0 hb1).from W5.heap.size;clear c1 hb1;have cs:=hI1.st;have c1:W1.cell? ⟨w.heap.size,1,none⟩=some (.slice pa len ca):=by simp[World.cell?,cs]
   clear cs;have hws:=λbs W h1 h2 h3=>Tryz.WriteString_k w.heap.size (w.heap.size+1) (byteCells bs) s W h1 h2 h3;simp only[strCells_eq,<-byteCells_append] at hws;rw[show s.data.toList=zD y by rw[HS.out]] at hws;have HWS:=hid hws;clear hws;by_cases hk0:k=0
   ·have hjl:¬(j:Int)<(len:Int)-1:=by omega
    gi_wp2_with (refine⟨trivial,?_⟩;gi_at_call 238;refine(CallsIn.inRound lp (callsIn_wide.2 (HWS.out _ W1 hI1.bd (by rw[byteCells_length];omega) hI1.below.size))).mono ?_);rintro e W2 ⟨rfl,hbd,hb2,hk2⟩;have hI2:=hI1.more (.inr hbd) hb2 hk2;have kW2:=kW1.trans (zcy hI1.bd hb2 hk2 W5.heap.size);clear hbd hb2 hk2 c1 kW1;have HI2:=hid hI2;clear hI2;have KW2:=hid kW2;clear kW2;have HK0:=hid hk0;clear hk0 hI hI1;have HJ:=hid hj;clear hj;gi_wp2;refine⟨KW2.out,?_⟩;have hf:=HI2.out;have e:=zl7 true (l:=zaa B9 n) (by rw[<-HL.out];omega);rw[HY.out,HJ.out,HK0.out,HL.out,Nat.sub_zero,e,<-HL.out] at hf;rw[HK0.out];exact hf
   ·have hjl:(j:Int)<(len:Int)-1:=by omega
    obtain⟨c,hc⟩:∃c,c=9-s.size:=⟨_,rfl⟩;have hci:(9:Int)-s.size=(c:Int):=by omega
    have hrp:=λW=>Tryz.strings_Repeat ⟨#[48]⟩ c W (by omega) (by show 1*c<=_;omega);rw[show(⟨#[48]⟩:ByteArray).data.toList=[48] from rfl,<-hci] at hrp;obtain⟨z,hz⟩:∃z:ByteArray,z=⟨(repeatL [48] c).toArray⟩:=⟨_,rfl⟩;rw[<-hz] at hrp;have HRP:=hid hrp;clear hrp;have hwz:=λbs W h1 h2 h3=>Tryz.WriteString_k w.heap.size (w.heap.size+1) (byteCells bs) z W h1 h2 h3;simp only[strCells_eq,<-byteCells_append] at hwz;rw[show z.data.toList=List.replicate c 48 by rw[hz];exact zhy c] at hwz;have HWZ:=hid hwz;clear hwz;have hzs:z.size=c:=by rw[hz];show(repeatL [48] c).toArray.size=_;rw[zhy];simp
    have HZS:=hid hzs;clear hzs hz;have HC:=hid hc;have HCI:=hid hci;have hc9:c<=9:=by omega
    clear hc hci;gi_wp2_with (refine⟨trivial,?_⟩;gi_at_call 181;refine(CallsIn.inRound lp (callsIn_wide.2 (HRP.out W1))).mono ?_);rintro e W2 ⟨rfl,hb2⟩;have hI2:=hI1.grow hb2;have kW2:=kW1.trans ((za0 hb2).from W5.heap.size);clear hb2 c1 kW1 hI1 hI;gi_wp2_with (refine⟨trivial,?_⟩;gi_at_call 238;refine(CallsIn.inRound lp (callsIn_wide.2 (HWZ.out _ W2 hI2.bd (by rw[byteCells_length,HZS.out];omega) hI2.below.size))).mono ?_);rintro e W3 ⟨rfl,hbd,hb3,hk3⟩;have hI3:=hI2.more (.inr hbd) hb3 hk3;have kW3:=kW2.trans (zcy hI2.bd hb3 hk3 W5.heap.size);clear hbd hb3 hk3 kW2 hI2;gi_wp2_with (refine⟨trivial,?_⟩;gi_at_call 238;refine(CallsIn.inRound lp (callsIn_wide.2 (HWS.out _ W3 hI3.bd (by rw[byteCells_length,zU,List.length_replicate];omega) hI3.below.size))).mono ?_);rintro e W4 ⟨rfl,hbd,hb4,hk4⟩;have hI4:=hI3.more (.inr hbd) hb4 hk4;have kW4:=kW3.trans (zcy hI3.bd hb4 hk4 W5.heap.size);clear hbd hb4 hk4 kW3 hI3;have HI4:=hid hI4;clear hI4;have KW4:=hid kW4;clear kW4;have HK0:=hid hk0;clear hk0;have HJ:=hid hj;clear hj;gi_wp2;refine⟨KW4.out,?_⟩;have hf:=HI4.out;have e:=znh true (n:=n) (k:=k) (by rw[<-HL.out];exact hk) HK0.out;rw[HC.out,HSZ.out,HY.out,HJ.out,HL.out,e,<-HL.out] at hf;exact hf
  case donetrue=>
   rintro D W hD hI hK;have hout:=zo2 true h0;have hz:=HZ.out;simp at hz;simp at hout;rw[<-HL.out,<-hz] at hout;clear hz;have hd:=hI.bd;have hst:=Tryz.String_k w.heap.size (w.heap.size+1) (zdt true (zaa B9 n) len) W hd hI.below.size;rw[hout] at hst;have HST:=hid hst;clear hst hout;have HI:=hid hI;have HK:=hid hK;clear hK;clear hd hI;gi_wp2_with (refine⟨trivial,?_⟩;gi_at_call 240;refine(callsIn_wide.2 HST.out).mono ?_);rintro e W9 ⟨rfl,hx9,hb9,hk9⟩;clear hx9;have hK9:=(zcy HI.out.bd hb9 hk9 0).same D _ (Nat.zero_le _) HK.out rfl;have HK9:=hid hK9;clear hK9;have HB9:=hid (HI.out.below.trans hb9);clear hb9 hk9;gi_wp2;refine⟨by simp,.inl ⟨_,_,rfl,run_takeDeferred HK9.out,?_⟩⟩;exact⟨_,by simp[results,Tryz.f222,go_sem],rfl,zby HB9.out (by have:=Below.size HI.out.below;omega) HK9.out⟩
theorem zo4 (m:Bool) (va:Value) (n:Nat) (w:zA) (hw:Wd w) (ha:Sl w va ((zaa B9 n).map I)) (hlen:(zaa B9 n).length<=1000):
 qJ 222 #[.agg #[.bool m,va]] w (St (zE (if m then-(n:Int) else n))):=by
 rcases Nat.eq_zero_or_pos n with rfl|h
 ·rw[zaz] at ha
  refine(zuw m va w ha).mono ?_;rintro e w' ⟨rfl,h⟩;exact⟨by cases m<;>simp[zb9],h⟩
 ·exact zwp m va n _ rfl w hw ha h hlen
def sgn (m:Bool) (n:Nat):Int:=if m then-(n:Int) else n
theorem zkw (n:Nat):sgn false n=n:=by simp[sgn]
theorem zy0 (n:Nat):sgn true n= -(n:Int):=by simp[sgn]
theorem zge (m:Bool) (n:Nat):(sgn m n).natAbs=n:=by cases m<;>simp[sgn]
theorem zcs (x:Int):sgn (decide (x<0)) x.natAbs=x:=by
 unfold sgn;by_cases h:x<0
 ·simp[h];omega
 ·simp[h];omega
theorem ztv (x:Int):sgn (!decide (x<0)) x.natAbs= -x:=by
 unfold sgn;by_cases h:x<0
 ·simp[h];omega
 ·simp[h];omega
theorem zux {n k:Nat} (hk:0<k) (h:(zD n).length<=9*k):(zaa B9 n).length<=k:=by
 refine zfv (by decide) ?_;rw[show B9=10^9 from rfl,<-Nat.pow_mul];exact(zaf n (9*k) (by omega)).1 h
def resL (z:Int):List UInt8:=if digs z<=300 then zE z else[]
def resE (z:Int):Int:=if digs z<=300 then 0 else 4
theorem zcf {z:Int} (h:digs z<=300):resL z=zE z:=if_pos h
theorem zcg {z:Int} (h:digs z<=300):resE z=0:=if_pos h
theorem zhz {x y:Int} {k:Nat} (hk:0<k) (hx:digs x<=k) (hy:digs y<=k):digs (x+y)<=k+1:=by
 rw[za3 _ _ (by omega),Nat.pow_succ];rw[za3 _ _ hk] at hx hy;have:=Int.natAbs_add_le x y;omega
theorem zy1 (x:Int):digs (-x)=digs x:=by unfold digs;rw[Int.natAbs_neg]
theorem zq2 {x y:Int} {i j:Nat} (hi:0<i) (hj:0<j) (hx:digs x<=i) (hy:digs y<=j):digs (x*y)<=i+j:=by
 rw[za3 _ _ (by omega),yK,Nat.pow_add];rw[za3 _ _ hi] at hx;rw[za3 _ _ hj] at hy;exact Nat.mul_lt_mul'' hx hy
theorem zb4 {z:Int} {k:Nat} (hk:0<k) (h:digs z<=9*k):(zaa B9 z.natAbs).length<=k:=zux hk h
theorem zwq (m:Bool) (va:Value) (n:Nat) (w:zA) (hw:Wd w) (ha:Sl w va ((zaa B9 n).map I)) (hlen:(zaa B9 n).length<=1000) (h:digs (sgn m n)<=300):
 qJ 164 #[.agg #[.bool m,va]] w (.tuple #[St (zE (sgn m n)),.int .i64 0]):=by
 obtain⟨pa,ca,rfl, -⟩:=id ha;simp only[zV] at*
 have hwr:=λW h1 h2=>zo4 m (.slice pa (zaa B9 n).length ca) n W h1 h2 hlen;have htp:=λW=>Tryz.strings_TrimPrefix ⟨(zE (sgn m n)).toArray⟩ ⟨#[45]⟩ W;rw[show(⟨(zE (sgn m n)).toArray⟩:ByteArray).data.toList=zE (sgn m n) from rfl,show(⟨#[45]⟩:ByteArray).data.toList=[45] from rfl,zbi] at htp;obtain⟨s,hs⟩:∃s:ByteArray,s=⟨(zD (sgn m n).natAbs).toArray⟩:=⟨_,rfl⟩;have hsz:s.size=digs (sgn m n):=by rw[hs];show(zD (sgn m n).natAbs).toArray.size=_;simp[digs]
 rw[<-hs] at htp;change ∀W,_->_->zC _ _ _ _ (λe w'=>e=.returned (St (zE (sgn m n)))/\_) at hwr;generalize sgn m n=z at*
 have hsb:¬(300<(s.size:Int)):=by omega
 have hsb2:(s.size:Int)<=300:=by omega
 have HWR:=hid hwr;clear hwr;have HTP:=hid htp;clear htp;have HA:=hid ha;clear ha;have HW:=hid hw;clear hw hs hsz h;generalize (zaa B9 n).length=len at*
 go_enter Tryz.func164,Tryz.ntmps164;go_wp2_with fail;have hb0:qL w (w.alloc (.cells #[.bool m,.slice pa len ca] 209)):=(zM _ w).alloc (zN _) _;refine(HWR.out _ (HW.out.below hb0) (HA.out.below hb0)).mono ?_;rintro e w1 ⟨rfl,hb1⟩;have hB:=hb0.trans (hb1.mono (by simp));clear hb0 hb1;go_wp2_with fail;refine(HTP.out w1).mono ?_;rintro e w2 ⟨rfl,rfl⟩;go_wp2_with fail;go_ret2;exact⟨rfl,hB⟩
theorem zsv (m:Bool) (va:Value) (n:Nat) (w:zA) (hw:Wd w) (ha:Sl w va ((zaa B9 n).map I)) (hlen:(zaa B9 n).length<=1000) (h:300<digs (sgn m n)):
 qJ 164 #[.agg #[.bool m,va]] w (.tuple #[St [],.int .i64 4]):=by
 obtain⟨pa,ca,rfl, -⟩:=id ha;simp only[zV] at*
 have hwr:=λW h1 h2=>zo4 m (.slice pa (zaa B9 n).length ca) n W h1 h2 hlen;have htp:=λW=>Tryz.strings_TrimPrefix ⟨(zE (sgn m n)).toArray⟩ ⟨#[45]⟩ W;rw[show(⟨(zE (sgn m n)).toArray⟩:ByteArray).data.toList=zE (sgn m n) from rfl,show(⟨#[45]⟩:ByteArray).data.toList=[45] from rfl,zbi] at htp;obtain⟨s,hs⟩:∃s:ByteArray,s=⟨(zD (sgn m n).natAbs).toArray⟩:=⟨_,rfl⟩;have hsz:s.size=digs (sgn m n):=by rw[hs];show(zD (sgn m n).natAbs).toArray.size=_;simp[digs]
 rw[<-hs] at htp;change ∀W,_->_->zC _ _ _ _ (λe w'=>e=.returned (St (zE (sgn m n)))/\_) at hwr;generalize sgn m n=z at*
 have hsb:(300<(s.size:Int)):=by omega
 have HWR:=hid hwr;clear hwr;have HTP:=hid htp;clear htp;have HA:=hid ha;clear ha;have HW:=hid hw;clear hw hs hsz h;generalize (zaa B9 n).length=len at*
 go_enter Tryz.func164,Tryz.ntmps164;go_wp2_with fail;have hb0:qL w (w.alloc (.cells #[.bool m,.slice pa len ca] 209)):=(zM _ w).alloc (zN _) _;refine(HWR.out _ (HW.out.below hb0) (HA.out.below hb0)).mono ?_;rintro e w1 ⟨rfl,hb1⟩;have hB:=hb0.trans (hb1.mono (by simp));clear hb0 hb1;go_wp2_with fail;refine(HTP.out w1).mono ?_;rintro e w2 ⟨rfl,rfl⟩;go_wp2_with fail;go_ret2;exact⟨rfl,hB⟩
theorem zez (m:Bool) (va:Value) (n:Nat) (w:zA) (hw:Wd w) (ha:Sl w va ((zaa B9 n).map I)) (hlen:(zaa B9 n).length<=1000):
 qJ 164 #[.agg #[.bool m,va]] w (.tuple #[St (resL (sgn m n)),.int .i64 (resE (sgn m n))]):=by
 unfold resL resE;by_cases h:digs (sgn m n)<=300
 ·rw[if_pos h,if_pos h];exact zwq m va n w hw ha hlen h
 ·rw[if_neg h,if_neg h];exact zsv m va n w hw ha hlen (by omega)
def zni (w:zA) (z:Int) (e:Ending) (w':zA):Prop:=
 ∃m v n,e=.returned (.agg #[.bool m,v])/\sgn m n=z/\Sl w' v ((zaa B9 n).map I)/\Below w.heap.size w w'
theorem z09 (va vb:Value) (m n:Nat) (w:zA) (ha:Sl w va ((zaa B9 m).map I)) (hb:Sl w vb ((zaa B9 n).map I)) (la:(zaa B9 m).length<=1000) (lb:(zaa B9 n).length<=1000):
 zC zF 168 #[va,vb,.func (.func 169) #[] #[]] w λe w'=>∃p c k,e=.returned (.slice p k c)/\Sl w' (.slice p k c) ((zaa B9 (m+n)).map I)/\Below w.heap.size w w':=by
 refine(zqs va vb _ _ w ha hb (zak (by decide) m) (zak (by decide) n) la lb).mono ?_;rintro e w' ⟨v,rfl,hown,hB⟩;rw[zov (by decide) (zak (by decide) m) (zak (by decide) n),zam (by decide),zam (by decide)] at hown;have hs:=Sl.of_own hown;obtain⟨p,c,e, -⟩:=id hs;subst e;exact⟨p,c,_,rfl,hs,hB⟩
theorem zq3 (va vb:Value) (m n:Nat) (w:zA) (ha:Sl w va ((zaa B9 m).map I)) (hb:Sl w vb ((zaa B9 n).map I)) (la:(zaa B9 m).length<=1000) (lb:(zaa B9 n).length<=1000) (h:n<=m):
 zC zF 168 #[va,vb,.func (.func 170) #[] #[]] w λe w'=>∃p c k,e=.returned (.slice p k c)/\Sl w' (.slice p k c) ((zaa B9 (m-n)).map I)/\Below w.heap.size w w':=by
 refine(zpr va vb _ _ w ha hb (zak (by decide) m) (zak (by decide) n) la lb).mono ?_;rintro e w' ⟨v,rfl,hown,hB⟩;rw[znb (by decide) (zak (by decide) m) (zak (by decide) n) (by rw[zam (by decide),zam (by decide)];exact h) _ (by omega) (by omega),zam (by decide),zam (by decide)] at hown;have hs:=Sl.of_own hown;obtain⟨p,c,e, -⟩:=id hs;subst e;exact⟨p,c,_,rfl,hs,hB⟩
theorem zy2 (m:Bool) (vx vy:Value) (nx ny:Nat) (w:zA) (hx:Sl w vx ((zaa B9 nx).map I)) (hy:Sl w vy ((zaa B9 ny).map I)) (lx:(zaa B9 nx).length<=1000) (ly:(zaa B9 ny).length<=1000):
 zC zF 179 #[.agg #[.bool m,vx],.agg #[.bool m,vy]] w (zni w (sgn m nx+sgn m ny)):=by
 obtain⟨px,cx,rfl, -⟩:=id hx;obtain⟨py,cy,rfl, -⟩:=id hy;simp only[zV] at*
 have hpl:=λW h1 h2=>z09 (.slice px (zaa B9 nx).length cx) (.slice py (zaa B9 ny).length cy) nx ny W h1 h2 lx ly;generalize (zaa B9 nx).length=kx at*
 generalize (zaa B9 ny).length=ky at*
 have HPL:=hid hpl;clear hpl;have HX:=hid hx;clear hx;have HY:=hid hy;clear hy;go_enter Tryz.func179,Tryz.ntmps179;go_wp2;obtain⟨W3,hW3⟩:∃W3,W3=((w.alloc (.cells #[.bool m,.slice px kx cx] 209)).alloc (.cells #[.bool m,.slice py ky cy] 209)).alloc (.cells #[.bool false,.slice none 0 0] 209):=⟨_,rfl⟩;have hB3:qL w W3:=by rw[hW3];exact(((zM _ w).alloc (zN _) _).alloc (by simp) _).alloc (by simp;omega) _
 have b2:W3.heap[w.heap.size]? =some (.cells #[.bool m,.slice px kx cx] 209 (0,0)):=by
  rw[hW3];exact(Below.heap_alloc _ _ _ (by simp only[zH];omega)).trans ((Below.heap_alloc _ _ _ (by simp only[zH];omega)).trans (zG w _))
 have b3:W3.heap[w.heap.size+1]? =some (.cells #[.bool m,.slice py ky cy] 209 (0,0)):=by
  rw[hW3];refine(Below.heap_alloc _ _ _ (by simp only[zH];omega)).trans ?_;have:=zG (w.alloc (.cells #[.bool m,.slice px kx cx] 209)) (.cells #[.bool m,.slice py ky cy] 209);rwa [zH] at this
 have b4:W3.heap[w.heap.size+1+1]? =some (.cells #[.bool false,.slice none 0 0] 209 (0,0)):=by
  rw[hW3];have:=zG ((w.alloc (.cells #[.bool m,.slice px kx cx] 209)).alloc (.cells #[.bool m,.slice py ky cy] 209)) (.cells #[.bool false,.slice none 0 0] 209);rwa [zH,zH] at this
 rw[<-hW3];clear hW3;have c20:∀W:zA,W.heap[w.heap.size]? =W3.heap[w.heap.size]? ->W.cell? ⟨w.heap.size,0,none⟩=some (.bool m):=λW h=>by simp[World.cell?,h,b2]
 have c21:∀W:zA,W.heap[w.heap.size]? =W3.heap[w.heap.size]? ->W.cell? ⟨w.heap.size,1,none⟩=some (.slice px kx cx):=λW h=>by simp[World.cell?,h,b2]
 have c30:∀W:zA,W.heap[w.heap.size+1]? =W3.heap[w.heap.size+1]? ->W.cell? ⟨w.heap.size+1,0,none⟩=some (.bool m):=λW h=>by simp[World.cell?,h,b3]
 have c31:∀W:zA,W.heap[w.heap.size+1]? =W3.heap[w.heap.size+1]? ->W.cell? ⟨w.heap.size+1,1,none⟩=some (.slice py ky cy):=λW h=>by simp[World.cell?,h,b3]
 have C20:=hid c20;have C21:=hid c21;have C30:=hid c30;have C31:=hid c31;clear c20 c21 c30 c31;have L3:w.heap.size+1+1<W3.heap.size:=(Array.getElem?_eq_some_iff.1 b4).1;have B4:=hid b4;clear b2 b3 b4;refine zey 6 (λW=>W.cell? ⟨w.heap.size,0,none⟩=some (.bool m)/\W.cell? ⟨w.heap.size,1,none⟩=some (.slice px kx cx)/\W.cell? ⟨w.heap.size+1,0,none⟩=some (.bool m)/\W.cell? ⟨w.heap.size+1,1,none⟩=some (.slice py ky cy))
  (by kernel_rfl) (by kernel_rfl) ⟨C20.out _ rfl,C21.out _ rfl,C30.out _ rfl,C31.out _ rfl⟩ ?_
 simp only[List.take_succ_cons,List.take_zero,List.drop_succ_cons,List.drop_zero]
 repeat(apply zer (by rfl);(focus(rintro W ⟨h1,h2,h3,h4⟩;go_simp;try with_reducible rfl));try simp only[zzQ])
 refine ze6 ?_;refine zbt (by rfl) λK hK=>?_;go_simp;refine(HPL.out W3.drew (HX.out.below (hB3.drew)) (HY.out.below hB3.drew)).mono ?_;rintro e W4 ⟨p,c,k,rfl,hs,hB4⟩;have e2:W4.heap[w.heap.size]? =W3.heap[w.heap.size]? :=hB4.block _ (by show _<W3.heap.size;omega);have e3:W4.heap[w.heap.size+1]? =W3.heap[w.heap.size+1]? :=hB4.block _ (by show _<W3.heap.size;omega);have b4:W4.heap[w.heap.size+1+1]? =some (.cells #[.bool false,.slice none 0 0] 209 (0,0)):=(hB4.block _ (by show _<W3.heap.size;omega)).trans B4.out;have hB5:qL w W4:=hB3.drew.trans (hB4.mono (by show _<=W3.heap.size;omega));have hS:=And.intro (C20.out W4 e2) (And.intro (C21.out W4 e2) (And.intro (C30.out W4 e3) (C31.out W4 e3)));have E2:=hid e2;have E3:=hid e3;clear e2 e3 hB4;have HS:=hid hs;clear hs;refine hK _ _ hS ?_;clear hK K
 try simp only[zzQ]
 refine zbt (by rfl) λK hK=>?_;go_simp;refine hK _ _ hS ?_;clear hK K
 try simp only[zzQ]
 have d0:W4.cell? ⟨w.heap.size+1+1,0,none⟩=some (.bool false):=by simp[World.cell?,b4]
 have d1:W4.cell? ⟨w.heap.size+1+1,1,none⟩=some (.slice none 0 0):=by simp[World.cell?,b4]
 have f0:W4.frozen? ⟨w.heap.size+1+1,0,none⟩=false:=by simp[World.frozen?,b4]
 have f1:W4.frozen? ⟨w.heap.size+1+1,1,none⟩=false:=by simp[World.frozen?,b4]
 refine zbt (by rfl) λK hK=>?_;go_simp;have g2:((W4.setCell ⟨w.heap.size+1+1,0,none⟩ (.bool m)).setCell ⟨w.heap.size+1+1,1,none⟩ (.slice p k c)).heap[w.heap.size]? =W3.heap[w.heap.size]? :=
  (yE _ _ _ _ (by show w.heap.size≠w.heap.size+1+1;omega)).trans ((yE _ _ _ _ (by show w.heap.size≠w.heap.size+1+1;omega)).trans E2.out)
 have g3:((W4.setCell ⟨w.heap.size+1+1,0,none⟩ (.bool m)).setCell ⟨w.heap.size+1+1,1,none⟩ (.slice p k c)).heap[w.heap.size+1]? =W3.heap[w.heap.size+1]? :=
  (yE _ _ _ _ (by show w.heap.size+1≠w.heap.size+1+1;omega)).trans ((yE _ _ _ _ (by show w.heap.size+1≠w.heap.size+1+1;omega)).trans E3.out)
 refine hK _ _ ⟨C20.out _ g2,C21.out _ g2,C30.out _ g3,C31.out _ g3⟩ ?_;clear hK K g2 g3
 try simp only[zzQ]
 refine ze7 ⟨rfl,?_⟩;have hs0:=HS.out.set d0 (λx=>by simp[I]) (.bool m);have e1:=(World.cell?_setCell_other _ _ _ (.bool m) (show(⟨w.heap.size+1+1,0,none⟩:Addr)≠⟨w.heap.size+1+1,1,none⟩ by simp)).trans d1;have hs1:=hs0.set e1 (λx=>by simp[I]) (.slice p k c);have e0:=(World.cell?_setCell_other _ _ _ (.slice p k c) (show(⟨w.heap.size+1+1,1,none⟩:Addr)≠⟨w.heap.size+1+1,0,none⟩ by simp)).trans (za9 (u:=.bool m) d0);have e2:=za9 (u:=.slice p k c) e1;have hB6:=(hB5.setCell (p:=⟨w.heap.size+1+1,0,none⟩) (by show w.heap.size<=w.heap.size+1+1;omega) (.bool m)).setCell (p:=⟨w.heap.size+1+1,1,none⟩) (by show w.heap.size<=w.heap.size+1+1;omega) (.slice p k c);clear hs0 e1 d0 d1 f0 f1 b4 hS hB5;have HS1:=hid hs1;clear hs1;go_wp2;exact bodyPost_ret (v:=.agg #[.bool m,.slice p k c]) (by simp[results,Tryz.results179,go_sem,e0,e2]) rfl ⟨m,_,_,rfl,by cases m<;>simp[sgn]<;>omega,HS1.out,hB6⟩
theorem z1a (m:Bool) (vx vy:Value) (nx ny:Nat) (w:zA) (hx:Sl w vx ((zaa B9 nx).map I)) (hy:Sl w vy ((zaa B9 ny).map I)) (lx:(zaa B9 nx).length<=1000) (ly:(zaa B9 ny).length<=1000) (hle:ny<=nx):
 zC zF 179 #[.agg #[.bool m,vx],.agg #[.bool !m,vy]] w (zni w (sgn m nx+sgn (!m) ny)):=by
 obtain⟨px,cx,rfl, -⟩:=id hx;obtain⟨py,cy,rfl, -⟩:=id hy;simp only[zV] at*
 have hcm:=λW h1 h2=>zi9 (.slice px (zaa B9 nx).length cx) (.slice py (zaa B9 ny).length cy) nx ny W h1 h2 lx ly;have hmm:(m==!m)=false:=by cases m<;>rfl
 have hpl:=λW h1 h2=>zq3 (.slice px (zaa B9 nx).length cx) (.slice py (zaa B9 ny).length cy) nx ny W h1 h2 lx ly hle;generalize (zaa B9 nx).length=kx at*
 generalize (zaa B9 ny).length=ky at*
 have HPL:=hid hpl;clear hpl;have HC:=hid hcm;clear hcm;have HLE:=hid hle;clear hle;have HX:=hid hx;clear hx;have HY:=hid hy;clear hy;go_enter Tryz.func179,Tryz.ntmps179;go_wp2_with fail;obtain⟨W3,hW3⟩:∃W3,W3=((w.alloc (.cells #[.bool m,.slice px kx cx] 209)).alloc (.cells #[.bool !m,.slice py ky cy] 209)).alloc (.cells #[.bool false,.slice none 0 0] 209):=⟨_,rfl⟩;have hB3:qL w W3:=by rw[hW3];exact(((zM _ w).alloc (zN _) _).alloc (by simp) _).alloc (by simp;omega) _
 have b2:W3.heap[w.heap.size]? =some (.cells #[.bool m,.slice px kx cx] 209 (0,0)):=by
  rw[hW3];exact(Below.heap_alloc _ _ _ (by simp only[zH];omega)).trans ((Below.heap_alloc _ _ _ (by simp only[zH];omega)).trans (zG w _))
 have b3:W3.heap[w.heap.size+1]? =some (.cells #[.bool !m,.slice py ky cy] 209 (0,0)):=by
  rw[hW3];refine(Below.heap_alloc _ _ _ (by simp only[zH];omega)).trans ?_;have:=zG (w.alloc (.cells #[.bool m,.slice px kx cx] 209)) (.cells #[.bool !m,.slice py ky cy] 209);rwa [zH] at this
 have b4:W3.heap[w.heap.size+1+1]? =some (.cells #[.bool false,.slice none 0 0] 209 (0,0)):=by
  rw[hW3];have:=zG ((w.alloc (.cells #[.bool m,.slice px kx cx] 209)).alloc (.cells #[.bool !m,.slice py ky cy] 209)) (.cells #[.bool false,.slice none 0 0] 209);rwa [zH,zH] at this
 rw[<-hW3];clear hW3;refine(HC.out W3 (HX.out.below hB3) (HY.out.below hB3)).mono ?_;rintro e W5 ⟨cc,rfl,⟨hc1,hc2⟩,hBc⟩;have hge:0<=cc:=by have:=HLE.out;omega
 clear hc1 hc2;replace b2:=(hBc.block _ (Array.getElem?_eq_some_iff.1 b2).1).trans b2;replace b3:=(hBc.block _ (Array.getElem?_eq_some_iff.1 b3).1).trans b3;replace b4:=(hBc.block _ (Array.getElem?_eq_some_iff.1 b4).1).trans b4;replace hB3:qL w W5:=hB3.trans (hBc.mono hB3.size);clear hBc;clear W3;obtain⟨W3,rfl⟩:∃W3,W3=W5:=⟨_,rfl⟩;go_wp2;have c20:∀W:zA,W.heap[w.heap.size]? =W3.heap[w.heap.size]? ->W.cell? ⟨w.heap.size,0,none⟩=some (.bool m):=λW h=>by simp[World.cell?,h,b2]
 have c21:∀W:zA,W.heap[w.heap.size]? =W3.heap[w.heap.size]? ->W.cell? ⟨w.heap.size,1,none⟩=some (.slice px kx cx):=λW h=>by simp[World.cell?,h,b2]
 have c30:∀W:zA,W.heap[w.heap.size+1]? =W3.heap[w.heap.size+1]? ->W.cell? ⟨w.heap.size+1,0,none⟩=some (.bool !m):=λW h=>by simp[World.cell?,h,b3]
 have c31:∀W:zA,W.heap[w.heap.size+1]? =W3.heap[w.heap.size+1]? ->W.cell? ⟨w.heap.size+1,1,none⟩=some (.slice py ky cy):=λW h=>by simp[World.cell?,h,b3]
 have C20:=hid c20;have C21:=hid c21;have C30:=hid c30;have C31:=hid c31;clear c20 c21 c30 c31;have L3:w.heap.size+1+1<W3.heap.size:=(Array.getElem?_eq_some_iff.1 b4).1;have B4:=hid b4;clear b2 b3 b4;refine zey 6 (λW=>W.cell? ⟨w.heap.size,0,none⟩=some (.bool m)/\W.cell? ⟨w.heap.size,1,none⟩=some (.slice px kx cx)/\W.cell? ⟨w.heap.size+1,0,none⟩=some (.bool !m)/\W.cell? ⟨w.heap.size+1,1,none⟩=some (.slice py ky cy))
  (by kernel_rfl) (by kernel_rfl) ⟨C20.out _ rfl,C21.out _ rfl,C30.out _ rfl,C31.out _ rfl⟩ ?_
 simp only[List.take_succ_cons,List.take_zero,List.drop_succ_cons,List.drop_zero]
 repeat(apply zer (by rfl);(focus(rintro W ⟨h1,h2,h3,h4⟩;go_simp;try with_reducible rfl));try simp only[zzQ])
 refine ze6 ?_;refine zbt (by rfl) λK hK=>?_;go_simp;refine(HPL.out W3.drew (HX.out.below (hB3.drew)) (HY.out.below hB3.drew)).mono ?_;rintro e W4 ⟨p,c,k,rfl,hs,hB4⟩;have e2:W4.heap[w.heap.size]? =W3.heap[w.heap.size]? :=hB4.block _ (by show _<W3.heap.size;omega);have e3:W4.heap[w.heap.size+1]? =W3.heap[w.heap.size+1]? :=hB4.block _ (by show _<W3.heap.size;omega);have b4:W4.heap[w.heap.size+1+1]? =some (.cells #[.bool false,.slice none 0 0] 209 (0,0)):=(hB4.block _ (by show _<W3.heap.size;omega)).trans B4.out;have hB5:qL w W4:=hB3.drew.trans (hB4.mono (by show _<=W3.heap.size;omega));have hS:=And.intro (C20.out W4 e2) (And.intro (C21.out W4 e2) (And.intro (C30.out W4 e3) (C31.out W4 e3)));have E2:=hid e2;have E3:=hid e3;clear e2 e3 hB4;have HS:=hid hs;clear hs;refine hK _ _ hS ?_;clear hK K
 try simp only[zzQ]
 refine zbt (by rfl) λK hK=>?_;go_simp;refine hK _ _ hS ?_;clear hK K
 try simp only[zzQ]
 have d0:W4.cell? ⟨w.heap.size+1+1,0,none⟩=some (.bool false):=by simp[World.cell?,b4]
 have d1:W4.cell? ⟨w.heap.size+1+1,1,none⟩=some (.slice none 0 0):=by simp[World.cell?,b4]
 have f0:W4.frozen? ⟨w.heap.size+1+1,0,none⟩=false:=by simp[World.frozen?,b4]
 have f1:W4.frozen? ⟨w.heap.size+1+1,1,none⟩=false:=by simp[World.frozen?,b4]
 refine zbt (by rfl) λK hK=>?_;go_simp;have g2:((W4.setCell ⟨w.heap.size+1+1,0,none⟩ (.bool m)).setCell ⟨w.heap.size+1+1,1,none⟩ (.slice p k c)).heap[w.heap.size]? =W3.heap[w.heap.size]? :=
  (yE _ _ _ _ (by show w.heap.size≠w.heap.size+1+1;omega)).trans ((yE _ _ _ _ (by show w.heap.size≠w.heap.size+1+1;omega)).trans E2.out)
 have g3:((W4.setCell ⟨w.heap.size+1+1,0,none⟩ (.bool m)).setCell ⟨w.heap.size+1+1,1,none⟩ (.slice p k c)).heap[w.heap.size+1]? =W3.heap[w.heap.size+1]? :=
  (yE _ _ _ _ (by show w.heap.size+1≠w.heap.size+1+1;omega)).trans ((yE _ _ _ _ (by show w.heap.size+1≠w.heap.size+1+1;omega)).trans E3.out)
 refine hK _ _ ⟨C20.out _ g2,C21.out _ g2,C30.out _ g3,C31.out _ g3⟩ ?_;clear hK K g2 g3
 try simp only[zzQ]
 refine ze7 ⟨rfl,?_⟩;have hs0:=HS.out.set d0 (λx=>by simp[I]) (.bool m);have e1:=(World.cell?_setCell_other _ _ _ (.bool m) (show(⟨w.heap.size+1+1,0,none⟩:Addr)≠⟨w.heap.size+1+1,1,none⟩ by simp)).trans d1;have hs1:=hs0.set e1 (λx=>by simp[I]) (.slice p k c);have e0:=(World.cell?_setCell_other _ _ _ (.slice p k c) (show(⟨w.heap.size+1+1,1,none⟩:Addr)≠⟨w.heap.size+1+1,0,none⟩ by simp)).trans (za9 (u:=.bool m) d0);have e2:=za9 (u:=.slice p k c) e1;have hB6:=(hB5.setCell (p:=⟨w.heap.size+1+1,0,none⟩) (by show w.heap.size<=w.heap.size+1+1;omega) (.bool m)).setCell (p:=⟨w.heap.size+1+1,1,none⟩) (by show w.heap.size<=w.heap.size+1+1;omega) (.slice p k c);clear hs0 e1 d0 d1 f0 f1 b4 hS hB5;have HS1:=hid hs1;clear hs1;go_wp2;exact bodyPost_ret (v:=.agg #[.bool m,.slice p k c]) (by simp[results,Tryz.results179,go_sem,e0,e2]) rfl ⟨m,_,_,rfl,by have:=HLE.out;cases m<;>simp[sgn]<;>omega,HS1.out,hB6⟩
theorem zy3 (m:Bool) (vx vy:Value) (nx ny:Nat) (w:zA) (hx:Sl w vx ((zaa B9 nx).map I)) (hy:Sl w vy ((zaa B9 ny).map I)) (lx:(zaa B9 nx).length<=1000) (ly:(zaa B9 ny).length<=1000) (hle:nx<ny):
 zC zF 179 #[.agg #[.bool m,vx],.agg #[.bool !m,vy]] w (zni w (sgn m nx+sgn (!m) ny)):=by
 obtain⟨px,cx,rfl, -⟩:=id hx;obtain⟨py,cy,rfl, -⟩:=id hy;simp only[zV] at*
 have hcm:=λW h1 h2=>zi9 (.slice px (zaa B9 nx).length cx) (.slice py (zaa B9 ny).length cy) nx ny W h1 h2 lx ly;have hmm:(m==!m)=false:=by cases m<;>rfl
 have hpl:=λW h1 h2=>zq3 (.slice py (zaa B9 ny).length cy) (.slice px (zaa B9 nx).length cx) ny nx W h1 h2 ly lx (by omega);generalize (zaa B9 nx).length=kx at*
 generalize (zaa B9 ny).length=ky at*
 have HPL:=hid hpl;clear hpl;have HC:=hid hcm;clear hcm;have HLE:=hid hle;clear hle;have HX:=hid hx;clear hx;have HY:=hid hy;clear hy;go_enter Tryz.func179,Tryz.ntmps179;go_wp2_with fail;obtain⟨W3,hW3⟩:∃W3,W3=((w.alloc (.cells #[.bool m,.slice px kx cx] 209)).alloc (.cells #[.bool !m,.slice py ky cy] 209)).alloc (.cells #[.bool false,.slice none 0 0] 209):=⟨_,rfl⟩;have hB3:qL w W3:=by rw[hW3];exact(((zM _ w).alloc (zN _) _).alloc (by simp) _).alloc (by simp;omega) _
 have b2:W3.heap[w.heap.size]? =some (.cells #[.bool m,.slice px kx cx] 209 (0,0)):=by
  rw[hW3];exact(Below.heap_alloc _ _ _ (by simp only[zH];omega)).trans ((Below.heap_alloc _ _ _ (by simp only[zH];omega)).trans (zG w _))
 have b3:W3.heap[w.heap.size+1]? =some (.cells #[.bool !m,.slice py ky cy] 209 (0,0)):=by
  rw[hW3];refine(Below.heap_alloc _ _ _ (by simp only[zH];omega)).trans ?_;have:=zG (w.alloc (.cells #[.bool m,.slice px kx cx] 209)) (.cells #[.bool !m,.slice py ky cy] 209);rwa [zH] at this
 have b4:W3.heap[w.heap.size+1+1]? =some (.cells #[.bool false,.slice none 0 0] 209 (0,0)):=by
  rw[hW3];have:=zG ((w.alloc (.cells #[.bool m,.slice px kx cx] 209)).alloc (.cells #[.bool !m,.slice py ky cy] 209)) (.cells #[.bool false,.slice none 0 0] 209);rwa [zH,zH] at this
 rw[<-hW3];clear hW3;refine(HC.out W3 (HX.out.below hB3) (HY.out.below hB3)).mono ?_;rintro e W5 ⟨cc,rfl,⟨hc1,hc2⟩,hBc⟩;have hge:¬0<=cc:=by have:=HLE.out;omega
 clear hc1 hc2;replace b2:=(hBc.block _ (Array.getElem?_eq_some_iff.1 b2).1).trans b2;replace b3:=(hBc.block _ (Array.getElem?_eq_some_iff.1 b3).1).trans b3;replace b4:=(hBc.block _ (Array.getElem?_eq_some_iff.1 b4).1).trans b4;replace hB3:qL w W5:=hB3.trans (hBc.mono hB3.size);clear hBc;clear W3;obtain⟨W3,rfl⟩:∃W3,W3=W5:=⟨_,rfl⟩;go_wp2;have c20:∀W:zA,W.heap[w.heap.size]? =W3.heap[w.heap.size]? ->W.cell? ⟨w.heap.size,0,none⟩=some (.bool m):=λW h=>by simp[World.cell?,h,b2]
 have c21:∀W:zA,W.heap[w.heap.size]? =W3.heap[w.heap.size]? ->W.cell? ⟨w.heap.size,1,none⟩=some (.slice px kx cx):=λW h=>by simp[World.cell?,h,b2]
 have c30:∀W:zA,W.heap[w.heap.size+1]? =W3.heap[w.heap.size+1]? ->W.cell? ⟨w.heap.size+1,0,none⟩=some (.bool !m):=λW h=>by simp[World.cell?,h,b3]
 have c31:∀W:zA,W.heap[w.heap.size+1]? =W3.heap[w.heap.size+1]? ->W.cell? ⟨w.heap.size+1,1,none⟩=some (.slice py ky cy):=λW h=>by simp[World.cell?,h,b3]
 have C20:=hid c20;have C21:=hid c21;have C30:=hid c30;have C31:=hid c31;clear c20 c21 c30 c31;have L3:w.heap.size+1+1<W3.heap.size:=(Array.getElem?_eq_some_iff.1 b4).1;have B4:=hid b4;clear b2 b3 b4;refine zey 6 (λW=>W.cell? ⟨w.heap.size,0,none⟩=some (.bool m)/\W.cell? ⟨w.heap.size,1,none⟩=some (.slice px kx cx)/\W.cell? ⟨w.heap.size+1,0,none⟩=some (.bool !m)/\W.cell? ⟨w.heap.size+1,1,none⟩=some (.slice py ky cy))
  (by kernel_rfl) (by kernel_rfl) ⟨C20.out _ rfl,C21.out _ rfl,C30.out _ rfl,C31.out _ rfl⟩ ?_
 simp only[List.take_succ_cons,List.take_zero,List.drop_succ_cons,List.drop_zero]
 repeat(apply zer (by rfl);(focus(rintro W ⟨h1,h2,h3,h4⟩;go_simp;try with_reducible rfl));try simp only[zzQ])
 refine ze6 ?_;refine zbt (by rfl) λK hK=>?_;go_simp;refine(HPL.out W3.drew (HY.out.below (hB3.drew)) (HX.out.below hB3.drew)).mono ?_;rintro e W4 ⟨p,c,k,rfl,hs,hB4⟩;have e2:W4.heap[w.heap.size]? =W3.heap[w.heap.size]? :=hB4.block _ (by show _<W3.heap.size;omega);have e3:W4.heap[w.heap.size+1]? =W3.heap[w.heap.size+1]? :=hB4.block _ (by show _<W3.heap.size;omega);have b4:W4.heap[w.heap.size+1+1]? =some (.cells #[.bool false,.slice none 0 0] 209 (0,0)):=(hB4.block _ (by show _<W3.heap.size;omega)).trans B4.out;have hB5:qL w W4:=hB3.drew.trans (hB4.mono (by show _<=W3.heap.size;omega));have hS:=And.intro (C20.out W4 e2) (And.intro (C21.out W4 e2) (And.intro (C30.out W4 e3) (C31.out W4 e3)));have E2:=hid e2;have E3:=hid e3;clear e2 e3 hB4;have HS:=hid hs;clear hs;refine hK _ _ hS ?_;clear hK K
 try simp only[zzQ]
 refine zbt (by rfl) λK hK=>?_;go_simp;refine hK _ _ hS ?_;clear hK K
 try simp only[zzQ]
 have d0:W4.cell? ⟨w.heap.size+1+1,0,none⟩=some (.bool false):=by simp[World.cell?,b4]
 have d1:W4.cell? ⟨w.heap.size+1+1,1,none⟩=some (.slice none 0 0):=by simp[World.cell?,b4]
 have f0:W4.frozen? ⟨w.heap.size+1+1,0,none⟩=false:=by simp[World.frozen?,b4]
 have f1:W4.frozen? ⟨w.heap.size+1+1,1,none⟩=false:=by simp[World.frozen?,b4]
 refine zbt (by rfl) λK hK=>?_;go_simp;have g2:((W4.setCell ⟨w.heap.size+1+1,0,none⟩ (.bool !m)).setCell ⟨w.heap.size+1+1,1,none⟩ (.slice p k c)).heap[w.heap.size]? =W3.heap[w.heap.size]? :=
  (yE _ _ _ _ (by show w.heap.size≠w.heap.size+1+1;omega)).trans ((yE _ _ _ _ (by show w.heap.size≠w.heap.size+1+1;omega)).trans E2.out)
 have g3:((W4.setCell ⟨w.heap.size+1+1,0,none⟩ (.bool !m)).setCell ⟨w.heap.size+1+1,1,none⟩ (.slice p k c)).heap[w.heap.size+1]? =W3.heap[w.heap.size+1]? :=
  (yE _ _ _ _ (by show w.heap.size+1≠w.heap.size+1+1;omega)).trans ((yE _ _ _ _ (by show w.heap.size+1≠w.heap.size+1+1;omega)).trans E3.out)
 refine hK _ _ ⟨C20.out _ g2,C21.out _ g2,C30.out _ g3,C31.out _ g3⟩ ?_;clear hK K g2 g3
 try simp only[zzQ]
 refine ze7 ⟨rfl,?_⟩;have hs0:=HS.out.set d0 (λx=>by simp[I]) (.bool !m);have e1:=(World.cell?_setCell_other _ _ _ (.bool !m) (show(⟨w.heap.size+1+1,0,none⟩:Addr)≠⟨w.heap.size+1+1,1,none⟩ by simp)).trans d1;have hs1:=hs0.set e1 (λx=>by simp[I]) (.slice p k c);have e0:=(World.cell?_setCell_other _ _ _ (.slice p k c) (show(⟨w.heap.size+1+1,1,none⟩:Addr)≠⟨w.heap.size+1+1,0,none⟩ by simp)).trans (za9 (u:=.bool !m) d0);have e2:=za9 (u:=.slice p k c) e1;have hB6:=(hB5.setCell (p:=⟨w.heap.size+1+1,0,none⟩) (by show w.heap.size<=w.heap.size+1+1;omega) (.bool !m)).setCell (p:=⟨w.heap.size+1+1,1,none⟩) (by show w.heap.size<=w.heap.size+1+1;omega) (.slice p k c);clear hs0 e1 d0 d1 f0 f1 b4 hS hB5;have HS1:=hid hs1;clear hs1;go_wp2;exact bodyPost_ret (v:=.agg #[.bool !m,.slice p k c]) (by simp[results,Tryz.results179,go_sem,e0,e2]) rfl ⟨!m,_,_,rfl,by have:=HLE.out;cases m<;>simp[sgn]<;>omega,HS1.out,hB6⟩
theorem zog (m m':Bool) (vx vy:Value) (nx ny:Nat) (w:zA) (hx:Sl w vx ((zaa B9 nx).map I)) (hy:Sl w vy ((zaa B9 ny).map I)) (lx:(zaa B9 nx).length<=1000) (ly:(zaa B9 ny).length<=1000):
 zC zF 179 #[.agg #[.bool m,vx],.agg #[.bool m',vy]] w (zni w (sgn m nx+sgn m' ny)):=by
 by_cases h:m'=m
 ·subst h;exact zy2 _ vx vy nx ny w hx hy lx ly
 ·obtain rfl:m'=!m:=by cases m<;>cases m'<;>simp at*
  rcases Nat.lt_or_ge nx ny with h|h
  ·exact zy3 m vx vy nx ny w hx hy lx ly h
  ·exact z1a m vx vy nx ny w hx hy lx ly h
theorem lt18 {x:Int} (h:(zE x).length<=18): -1000000000000000000<x/\x<1000000000000000000:=by
 have h1:=zbr x;have h2:=(za3 x 18 (by omega)).1 (by omega);have e:(10:Nat)^18=1000000000000000000:=rfl;rw[e] at h2;omega
theorem zbf {z:Int} (h: -10000000000000000000<z/\z<10000000000000000000):digs z<=19:=by
 rw[za3 _ _ (by omega)];have e:(10:Nat)^19=10000000000000000000:=rfl;rw[e];omega
theorem zwr (x y:Int) (hx:(zE x).length<=18) (hy:(zE y).length<=18) (w:zA) (hw:Wd w):
 qJ 128 #[St (zE x),St (zE y)] w (.tuple #[St (resL (x+y)),.int .i64 (resE (x+y))]):=by
 obtain⟨x1,x2⟩:=lt18 hx;obtain⟨y1,y2⟩:=lt18 hy;have h0:digs (x+y)<=300:=zO (zbf (by omega)) (by omega);rw[zcf h0,zcg h0];have hb:=λW=>zdh x y (zO (zbf (by omega)) (by omega)) (zO (zbf (by omega)) (by omega)) W;have hs:=λW=>zdy x y hx hy W;have HB:=hid hb;clear hb;have HS:=hid hs;clear hs hx hy h0;have HW:=hid hw;clear hw;go_enter Tryz.func128,Tryz.ntmps128;go_wp2_with fail;refine(HB.out w).mono ?_;rintro e w1 ⟨rfl,hB1⟩;go_wp2_with fail;refine(HS.out w1).mono ?_;rintro e w2 ⟨rfl,hb2⟩;have hB2:=hB1.trans (hb2.mono hB1.size);clear hb2 hB1;go_wp2_with fail;refine(zb3 (x+y) (by omega) (by omega) w2 (HW.out.below hB2)).mono ?_;rintro e w3 ⟨rfl,hb3⟩;have hB3:=hB2.trans (hb3.mono hB2.size);clear hb3 hB2;go_wp2_with fail;go_ret2;exact⟨rfl,hB3⟩
theorem z1b (x y:Int) (hx:digs x<=300) (hy:digs y<=300) (h:18<(zE x).length\/18<(zE y).length) (w:zA) (hw:Wd w):
 qJ 128 #[St (zE x),St (zE y)] w (.tuple #[St (resL (x+y)),.int .i64 (resE (x+y))]):=by
 have hb:=λW=>zdh x y hx hy W;have hs:=λW=>ze8 x y h W;have r1:=λW=>zc3 x W (by omega);have r2:=λW=>zc3 y W (by omega);have l1:=zb4 (z:=x) (k:=100) (by omega) (by omega);have l2:=zb4 (z:=y) (k:=100) (by omega) (by omega);have l3:=zb4 (z:=x+y) (k:=100) (by omega) (zO (zhz (by omega) hx hy) (by omega));have HB:=hid hb;clear hb;have HS:=hid hs;clear hs hx hy h;have HW:=hid hw;clear hw;have R1:=hid r1;have R2:=hid r2;clear r1 r2;go_enter Tryz.func128,Tryz.ntmps128;go_wp2_with fail;refine(HB.out w).mono ?_;rintro e w1 ⟨rfl,hB1⟩;go_wp2_with fail;refine(HS.out w1).mono ?_;rintro e w2 ⟨rfl,rfl⟩;go_wp2_with fail;refine(R1.out w1).mono ?_;rintro e w2 ⟨vx,rfl,hvx,hb2⟩;have hB2:=hB1.trans (hb2.mono hB1.size);clear hb2 hB1;have HVX:=hid hvx;clear hvx;go_wp2_with fail;refine(R2.out w2).mono ?_;rintro e w3 ⟨vy,rfl,hvy,hb3⟩;have hvx:=HVX.out.below hb3;have hB3:=hB2.trans (hb3.mono hB2.size);clear hb3 hB2;have HVX2:=hid hvx;have HVY:=hid hvy;clear hvx hvy HVX;go_wp2_with fail;refine(zog _ _ vx vy _ _ w3 HVX2.out HVY.out (by omega) (by omega)).mono ?_;rintro e w4 ⟨m,v,n,rfl,hz,hv,hb4⟩;rw[zcs,zcs] at hz;have hn:n=(x+y).natAbs:=by rw[<-hz,zge]
 have hB4:=hB3.trans (hb4.mono hB3.size);clear hb4 hB3;have HZ:=hid hz;clear hz;have HV:=hid hv;clear hv;have hnl:(zaa B9 n).length<=1000:=by rw[hn];omega
 clear hn;go_wp2_with fail;refine(zez m v n w4 (HW.out.below hB4) HV.out hnl).mono ?_;rw[HZ.out];rintro e w5 ⟨rfl,hb5⟩;have hB5:=hB4.trans (hb5.mono hB4.size);clear hb5 hB4;go_wp2_with fail;go_ret2;exact⟨rfl,hB5⟩
theorem z1c (x y:Int) (hx:digs x<=300) (hy:digs y<=300) (w:zA) (hw:Wd w):
 qJ 128 #[St (zE x),St (zE y)] w (.tuple #[St (resL (x+y)),.int .i64 (resE (x+y))]):=by
 by_cases h:(zE x).length<=18/\(zE y).length<=18
 ·exact zwr x y h.1 h.2 w hw
 ·exact z1b x y hx hy (by omega) w hw
theorem zbx {w:zA} {v:Value} {l:List Nat} (h:Sl w v (l.map I)):∃p k c,v=.slice p k c/\k=l.length:=by
 obtain⟨p,c,rfl, -⟩:=h;exact⟨p,_,c,rfl,by simp⟩
theorem zws (x y:Int) (hx:(zE x).length<=18) (hy:(zE y).length<=18) (w:zA) (hw:Wd w):
 qJ 155 #[St (zE x),St (zE y)] w (.tuple #[St (resL (x-y)),.int .i64 (resE (x-y))]):=by
 obtain⟨x1,x2⟩:=lt18 hx;obtain⟨y1,y2⟩:=lt18 hy;have h0:digs (x-y)<=300:=zO (zbf (by omega)) (by omega);rw[zcf h0,zcg h0];have hb:=λW=>zdh x y (zO (zbf (by omega)) (by omega)) (zO (zbf (by omega)) (by omega)) W;have hs:=λW=>zdy x y hx hy W;have HB:=hid hb;clear hb;have HS:=hid hs;clear hs hx hy h0;have HW:=hid hw;clear hw;go_enter Tryz.func155,Tryz.ntmps155;go_wp2_with fail;refine(HB.out w).mono ?_;rintro e w1 ⟨rfl,hB1⟩;go_wp2_with fail;refine(HS.out w1).mono ?_;rintro e w2 ⟨rfl,hb2⟩;have hB2:=hB1.trans (hb2.mono hB1.size);clear hb2 hB1;go_wp2_with fail;refine(zb3 (x-y) (by omega) (by omega) w2 (HW.out.below hB2)).mono ?_;rintro e w3 ⟨rfl,hb3⟩;have hB3:=hB2.trans (hb3.mono hB2.size);clear hb3 hB2;go_wp2_with fail;go_ret2;exact⟨rfl,hB3⟩
theorem z1d (x y:Int) (hx:digs x<=300) (hy:digs y<=300) (h:18<(zE x).length\/18<(zE y).length) (w:zA) (hw:Wd w):
 qJ 155 #[St (zE x),St (zE y)] w (.tuple #[St (resL (x-y)),.int .i64 (resE (x-y))]):=by
 have hb:=λW=>zdh x y hx hy W;have hs:=λW=>ze8 x y h W;have r1:=λW=>zc3 x W (by omega);have r2:=λW=>zc3 y W (by omega);have l1:=zb4 (z:=x) (k:=100) (by omega) (by omega);have l2:=zb4 (z:=y) (k:=100) (by omega) (by omega);have l3:=zb4 (z:=x-y) (k:=100) (by omega) (zO (by rw[Int.sub_eq_add_neg];exact zhz (by omega) hx (by rw[zy1];exact hy)) (by omega));have HB:=hid hb;clear hb;have HS:=hid hs;clear hs hx hy h;have HW:=hid hw;clear hw;have R1:=hid r1;have R2:=hid r2;clear r1 r2;go_enter Tryz.func155,Tryz.ntmps155;go_wp2_with fail;refine(HB.out w).mono ?_;rintro e w1 ⟨rfl,hB1⟩;go_wp2_with fail;refine(HS.out w1).mono ?_;rintro e w2 ⟨rfl,rfl⟩;go_wp2_with fail;refine(R2.out w1).mono ?_;rintro e w2 ⟨vy,rfl,hvy,hb2⟩;have hB2:=hB1.trans (hb2.mono hB1.size);clear hb2 hB1;obtain⟨py,ky,cy,rfl, -⟩:=zbx hvy;have HVY:=hid hvy;clear hvy;have snot:=ztv y;generalize hby:decide (y<0)=b at*
 have SN:=hid snot;clear snot;have HBY:=hid hby;clear hby
 go_wp2;have bk:=zG w2 (.cells #[.bool !b,.slice py ky cy] 209);have hB3:=hB2.alloc hB2.size (.cells #[.bool !b,.slice py ky cy] 209);have hb3:qL w2 (w2.alloc (.cells #[.bool !b,.slice py ky cy] 209)):=(zM _ _).alloc (zN _) _;have HVY2:=hid (HVY.out.below hb3);clear HVY hb3;generalize w2.alloc (.cells #[.bool !b,.slice py ky cy] 209)=W3 at*
 obtain⟨z,hz⟩:∃z,z=w2.heap.size:=⟨_,rfl⟩;rw[<-hz] at bk⊢;clear hz hB2 w2;have ck:∀W:zA,W.heap[z]? =W3.heap[z]? ->W.cell? ⟨z,0,none⟩=some (.bool !b)/\W.cell? ⟨z,1,none⟩=some (.slice py ky cy):=λW h=>⟨by simp[World.cell?,h,bk],by simp[World.cell?,h,bk]⟩;have CK:=hid ck;clear ck;have lz:z<W3.heap.size:=(Array.getElem?_eq_some_iff.1 bk).1;clear bk;refine zwm [(0,true),(2,true),(1,false),(3,false),(4,false),(5,true),(6,true),(7,true),(8,true)] (λW=>W.cell? ⟨z,0,none⟩=some (.bool !b)/\W.cell? ⟨z,1,none⟩=some (.slice py ky cy)) (by kernel_rfl) (by kernel_rfl) (CK.out _ rfl) ?_
 (apply MQ.take (by simp only[List.getElem?_toArray,List.getElem?_cons_zero];rfl) (by rfl);(focus(rintro W ⟨h1,h2⟩;go_simp;try with_reducible rfl));try simp only[zzQ])
 (apply MQ.take (by simp only[List.getElem?_toArray,List.getElem?_cons_succ,List.getElem?_cons_zero];rfl) (by rfl);(focus(rintro W ⟨h1,h2⟩;go_simp;try with_reducible rfl));try simp only[zzQ])
 (refine MQ.only (by simp only[List.getElem?_toArray,List.getElem?_cons_succ,List.getElem?_cons_zero];rfl) (by rfl) λK hK=>?_;go_simp)
 refine(R1.out W3.drew).mono ?_;rintro e w4 ⟨vx,rfl,hvx,hb4⟩;have e4:w4.heap[z]? =W3.heap[z]? :=hb4.block z lz;have hB4:=hB3.drew.trans (hb4.mono (by show _<=W3.heap.size;exact hB3.size));have hvy:=HVY2.out.below (((zM W3.heap.size W3).drew).trans hb4);have lz4:z<w4.heap.size:=zS lz hb4.size;have HVY3:=hid hvy;have HVX:=hid hvx;have S4:=CK.out w4 e4;have E4:=hid e4;clear hb4 hvy hvx e4
 (refine hK _ _ S4 ?_;clear hK K;try simp only[zzQ])
 (refine MQ.only (by simp only[List.getElem?_toArray,List.getElem?_cons_succ,List.getElem?_cons_zero];rfl) (by rfl) λK hK=>?_;go_simp)
 refine(zog _ _ vx (.slice py ky cy) _ _ w4 HVX.out HVY3.out (by omega) (by omega)).mono ?_;rintro e w5 ⟨m,v,n,rfl,hz,hv,hb5⟩;rw[SN.out,zcs] at hz;have hn:n=(x-y).natAbs:=by rw[show x-y=x+ -y from Int.sub_eq_add_neg,<-hz,zge]
 have hB5:=hB4.trans (hb5.mono hB4.size);have e5:w5.heap[z]? =W3.heap[z]? :=(hb5.block z lz4).trans E4.out;have S5:=CK.out w5 e5;have lz5:z<w5.heap.size:=zS lz4 hb5.size;have E5:=hid e5;have HZ:=hid (show sgn m n=x-y by rw[hz];omega);have HV:=hid hv;have hnl:(zaa B9 n).length<=1000:=by rw[hn];omega
 clear hn hb5 hB4 e5 hz hv
 (refine hK _ _ S5 ?_;clear hK K;try simp only[zzQ])
 (refine MQ.only (by simp only[List.getElem?_toArray,List.getElem?_cons_succ,List.getElem?_cons_zero];rfl) (by rfl) λK hK=>?_;go_simp)
 refine(zez m v n w5 (HW.out.below hB5) HV.out hnl).mono ?_;rw[HZ.out];rintro e w6 ⟨rfl,hb6⟩;have hB6:=hB5.trans (hb6.mono hB5.size);have S6:=CK.out w6 ((hb6.block z lz5).trans E5.out);clear hb6 hB5
 (refine hK _ _ S6 ?_;clear hK K;try simp only[zzQ])
 iterate 4 (apply MQ.take (by simp only[List.getElem?_toArray,List.getElem?_cons_succ,List.getElem?_cons_zero];rfl) (by rfl);(focus(rintro W ⟨h1,h2⟩;go_simp;try with_reducible rfl));try simp only[zzQ])
 refine MQ.nil ⟨rfl,?_⟩;go_wp2_with fail;go_ret2;exact⟨rfl,hB6⟩
theorem z1e (x y:Int) (hx:digs x<=300) (hy:digs y<=300) (w:zA) (hw:Wd w):
 qJ 155 #[St (zE x),St (zE y)] w (.tuple #[St (resL (x-y)),.int .i64 (resE (x-y))]):=by
 by_cases h:(zE x).length<=18/\(zE y).length<=18
 ·exact zws x y h.1 h.2 w hw
 ·exact z1d x y hx hy (by omega) w hw
theorem zy4 (va vb:Value) (m n:Nat) (w:zA) (ha:Sl w va ((zaa B9 m).map I)) (hb:Sl w vb ((zaa B9 n).map I)) (la:(zaa B9 m).length<=1000) (lb:(zaa B9 n).length<=1000):
 zC zF 165 #[va,vb] w λe w'=>∃p c k,e=.returned (.slice p k c)/\Sl w' (.slice p k c) ((zaa B9 (m*n)).map I)/\Below w.heap.size w w':=by
 refine(zox va vb _ _ w ha hb (zak (by decide) m) (zak (by decide) n) la lb).mono ?_;rintro e w' ⟨v,rfl,hown,hB⟩;rw[zjp (by decide) (zak (by decide) m) (zak (by decide) n),zam (by decide),zam (by decide)] at hown;have hs:=Sl.of_own hown;obtain⟨p,c,e, -⟩:=id hs;subst e;exact⟨p,c,_,rfl,hs,hB⟩
theorem z1f (x y:Int):sgn (decide (x<0) !=decide (y<0)) (x.natAbs*y.natAbs)=x*y:=by
 unfold sgn;have e:((x.natAbs*y.natAbs:Nat):Int)=(x.natAbs:Int)*y.natAbs:=by simp
 by_cases h1:x<0<;>by_cases h2:y<0
 ·simp only[h1,h2,decide_true,bne_self_eq_false,Bool.false_eq_true,if_false]
  rw[e,show(x.natAbs:Int)= -x by omega,show(y.natAbs:Int)= -y by omega,Int.neg_mul_neg]
 ·have:(decide (x<0) !=decide (y<0))=true:=by simp[h1,h2]
  rw[this,if_pos rfl,e,show(x.natAbs:Int)= -x by omega,show(y.natAbs:Int)=y by omega,Int.neg_mul,Int.neg_neg]
 ·have:(decide (x<0) !=decide (y<0))=true:=by simp[h1,h2]
  rw[this,if_pos rfl,e,show(x.natAbs:Int)=x by omega,show(y.natAbs:Int)= -y by omega,Int.mul_neg,Int.neg_neg]
 ·simp only[h1,h2,decide_false,bne_self_eq_false,Bool.false_eq_true,if_false]
  rw[e,show(x.natAbs:Int)=x by omega,show(y.natAbs:Int)=y by omega]
theorem z1g {x y:Int} (h:(zE x).length+(zE y).length<=18): -1000000000000000000<x*y/\x*y<1000000000000000000:=by
 have h1:=zbr x;have h2:=zbr y;have p1:=zbn x;have p2:=zbn y;have h3:=zq2 (x:=x) (y:=y) (i:=digs x) (j:=digs y) (by omega) (by omega) (zN _) (zN _);have h4:=(za3 (x*y) 18 (by omega)).1 (by omega);have e:(10:Nat)^18=1000000000000000000:=rfl;rw[e] at h4;omega
theorem zwt (x y:Int) (h:(zE x).length+(zE y).length<=18) (w:zA) (hw:Wd w):
 qJ 115 #[St (zE x),St (zE y)] w (.tuple #[St (resL (x*y)),.int .i64 (resE (x*y))]):=by
 obtain⟨x1,x2⟩:=lt18 (x:=x) (by omega);obtain⟨y1,y2⟩:=lt18 (x:=y) (by omega);obtain⟨p1,p2⟩:=z1g h;have h0:digs (x*y)<=300:=zO (zbf (by omega)) (by omega);rw[zcf h0,zcg h0];have hb:=λW=>zdh x y (zO (zbf (by omega)) (by omega)) (zO (zbf (by omega)) (by omega)) W;have hs:=λW=>zdy x y (by omega) (by omega) W;have hle:decide (((zE x).length:Int)+((zE y).length:Int)<=18)=true:=by simp;omega
 have hit:=λW hW=>zb3 (x*y) (by omega) (by omega) W hW;have hwr:IntKind.i64.wrap (x*y)=x*y:=zI _ (by omega);have hl1:(zE x).length<=18:=by omega
 have hl2:(zE y).length<=18:=by omega
 have HIT:=hid hit;clear hit;have HB:=hid hb;clear hb;have HS:=hid hs;clear hs h h0;have HW:=hid hw;clear hw;go_enter Tryz.func115,Tryz.ntmps115;go_wp2_with fail;refine(HB.out w).mono ?_;rintro e w1 ⟨rfl,hB1⟩;go_wp2_with fail;refine(HS.out w1).mono ?_;rintro e w2 ⟨rfl,hb2⟩;have hB2:=hB1.trans (hb2.mono hB1.size);clear hb2 hB1;go_wp2_with fail;refine(HIT.out w2 (HW.out.below hB2)).mono ?_;rintro e w3 ⟨rfl,hb3⟩;have hB3:=hB2.trans (hb3.mono hB2.size);clear hb3 hB2;go_wp2_with fail;go_ret2;exact⟨rfl,hB3⟩
theorem z1h (x y:Int) (hx:digs x<=300) (hy:digs y<=300) (h:¬(zE x).length+(zE y).length<=18) (w:zA) (hw:Wd w):
 qJ 115 #[St (zE x),St (zE y)] w (.tuple #[St (resL (x*y)),.int .i64 (resE (x*y))]):=by
 have hb:=λW=>zdh x y hx hy W;have r1:=λW=>zc3 x W (by omega);have r2:=λW=>zc3 y W (by omega);have l1:=zb4 (z:=x) (k:=100) (by omega) (by omega);have l2:=zb4 (z:=y) (k:=100) (by omega) (by omega);have l3:=zb4 (z:=x*y) (k:=100) (by omega) (zO (zq2 (by omega) (by omega) hx hy) (by omega));rw[yK] at l3;have hle:decide (((zE x).length:Int)+((zE y).length:Int)<=18)=false:=by simp;omega
 have q1:=za7 x;have q2:=za7 y;have hl1:(zE x).length<=301:=by omega
 have hl2:(zE y).length<=301:=by omega
 clear q1 q2;have HB:=hid hb;clear hb hx hy h;have HW:=hid hw;clear hw;have R1:=hid r1;have R2:=hid r2;clear r1 r2;go_enter Tryz.func115,Tryz.ntmps115;go_wp2_with fail;refine(HB.out w).mono ?_;rintro e w1 ⟨rfl,hB1⟩;go_wp2_with fail;refine(R1.out w1).mono ?_;rintro e w2 ⟨vx,rfl,hvx,hb2⟩;have hB2:=hB1.trans (hb2.mono hB1.size);clear hb2 hB1;have HVX:=hid hvx;clear hvx;go_wp2_with fail;refine(R2.out w2).mono ?_;rintro e w3 ⟨vy,rfl,hvy,hb3⟩;have hvx:=HVX.out.below hb3;have hB3:=hB2.trans (hb3.mono hB2.size);clear hb3 hB2 HVX;obtain⟨px,kx,cx,rfl, -⟩:=zbx hvx;obtain⟨py,ky,cy,rfl, -⟩:=zbx hvy;have HVX:=hid hvx;have HVY:=hid hvy;clear hvx hvy;have sm:=z1f x y;generalize hbx:decide (x<0)=b1 at*
 generalize hby:decide (y<0)=b2 at*
 have SM:=hid sm;clear sm hbx hby
 go_wp2;have b1k:=(Below.heap_alloc (w3.alloc (.cells #[.bool b1,.slice px kx cx] 209)) (.cells #[.bool b2,.slice py ky cy] 209) w3.heap.size (by simp)).trans (zG w3 (.cells #[.bool b1,.slice px kx cx] 209));have b2k:=zG (w3.alloc (.cells #[.bool b1,.slice px kx cx] 209)) (.cells #[.bool b2,.slice py ky cy] 209);rw[zH] at b2k;have hB4:=(hB3.alloc hB3.size (.cells #[.bool b1,.slice px kx cx] 209)).alloc (by have:=hB3.size;simp;omega) (.cells #[.bool b2,.slice py ky cy] 209);have hb4:qL w3 ((w3.alloc (.cells #[.bool b1,.slice px kx cx] 209)).alloc (.cells #[.bool b2,.slice py ky cy] 209)):=((zM _ _).alloc (zN _) _).alloc (by simp) _;have HVX2:=hid (HVX.out.below hb4);have HVY2:=hid (HVY.out.below hb4);clear HVX HVY hb4;generalize (w3.alloc (.cells #[.bool b1,.slice px kx cx] 209)).alloc (.cells #[.bool b2,.slice py ky cy] 209)=W4 at*
 obtain⟨z,hz⟩:∃z,z=w3.heap.size:=⟨_,rfl⟩;rw[<-hz] at b1k b2k⊢;clear hz hB3 w3;have ck:∀W:zA,W.heap[z]? =W4.heap[z]? ->W.heap[z+1]? =W4.heap[z+1]? ->(W.cell? ⟨z,0,none⟩=some (.bool b1)/\W.cell? ⟨z,1,none⟩=some (.slice px kx cx))/\W.cell? ⟨z+1,0,none⟩=some (.bool b2)/\W.cell? ⟨z+1,1,none⟩=some (.slice py ky cy):=
  λW h k=>⟨⟨by simp[World.cell?,h,b1k],by simp[World.cell?,h,b1k]⟩,by simp[World.cell?,k,b2k],by simp[World.cell?,k,b2k]⟩
 have CK:=hid ck;clear ck;have lz:z+1<W4.heap.size:=(Array.getElem?_eq_some_iff.1 b2k).1;clear b1k b2k;refine zwm [(0,true),(1,true),(2,true),(3,true),(4,true),(5,true),(6,true),(7,true),(8,true),(9,false),(10,true),(11,false),(12,true),(13,true),(14,true),(15,true)]
  (λW=>(W.cell? ⟨z,0,none⟩=some (.bool b1)/\W.cell? ⟨z,1,none⟩=some (.slice px kx cx))/\W.cell? ⟨z+1,0,none⟩=some (.bool b2)/\W.cell? ⟨z+1,1,none⟩=some (.slice py ky cy)) (by kernel_rfl) (by kernel_rfl) (CK.out _ rfl rfl) ?_
 iterate 9 (apply MQ.take (by simp only[List.getElem?_toArray,List.getElem?_cons_succ,List.getElem?_cons_zero];rfl) (by rfl);(focus(rintro W ⟨⟨h1,h2⟩,h3,h4⟩;go_simp;try with_reducible rfl));try simp only[zzQ])
 (refine MQ.only (by simp only[List.getElem?_toArray,List.getElem?_cons_succ,List.getElem?_cons_zero];rfl) (by rfl) λK hK=>?_;go_simp)
 refine(zy4 (.slice px kx cx) (.slice py ky cy) _ _ W4.drew (HVX2.out.below (zM _ _).drew) (HVY2.out.below (zM _ _).drew) (by omega) (by omega)).mono ?_;rintro e w5 ⟨p,c,k,rfl,hv,hb5⟩;have hB5:=hB4.drew.trans (hb5.mono (by show _<=W4.heap.size;exact hB4.size));have e5:w5.heap[z]? =W4.heap[z]? :=hb5.block z (by show z<W4.heap.size;omega);have f5:w5.heap[z+1]? =W4.heap[z+1]? :=hb5.block (z+1) lz;have lz5:z+1<w5.heap.size:=zS lz hb5.size;have S5:=CK.out w5 e5 f5;have E5:=hid e5;have F5:=hid f5;have HV:=hid hv;clear hb5 e5 f5 hv hB4
 (refine hK _ _ S5 ?_;clear hK K;try simp only[zzQ])
 (apply MQ.take (by simp only[List.getElem?_toArray,List.getElem?_cons_succ,List.getElem?_cons_zero];rfl) (by rfl);(focus(rintro W ⟨⟨h1,h2⟩,h3,h4⟩;go_simp;try with_reducible rfl));try simp only[zzQ])
 (refine MQ.only (by simp only[List.getElem?_toArray,List.getElem?_cons_succ,List.getElem?_cons_zero];rfl) (by rfl) λK hK=>?_;go_simp)
 refine(zez (b1 !=b2) (.slice p k c) (x.natAbs*y.natAbs) w5 (HW.out.below hB5) HV.out (by omega)).mono ?_;rw[SM.out];rintro e w6 ⟨rfl,hb6⟩;have hB6:=hB5.trans (hb6.mono hB5.size);have S6:=CK.out w6 ((hb6.block z (by omega)).trans E5.out) ((hb6.block (z+1) lz5).trans F5.out);clear hb6 hB5
 (refine hK _ _ S6 ?_;clear hK K;try simp only[zzQ])
 iterate 4 (apply MQ.take (by simp only[List.getElem?_toArray,List.getElem?_cons_succ,List.getElem?_cons_zero];rfl) (by rfl);(focus(rintro W ⟨⟨h1,h2⟩,h3,h4⟩;go_simp;try with_reducible rfl));try simp only[zzQ])
 refine MQ.nil ⟨rfl,?_⟩;go_wp2_with fail;go_ret2;exact⟨rfl,hB6⟩
theorem zhk (x y:Int) (hx:digs x<=300) (hy:digs y<=300) (w:zA) (hw:Wd w):
 qJ 115 #[St (zE x),St (zE y)] w (.tuple #[St (resL (x*y)),.int .i64 (resE (x*y))]):=by
 by_cases h:(zE x).length+(zE y).length<=18
 ·exact zwt x y h w hw
 ·exact z1h x y hx hy h w hw
def cmpZ (x y:Int):Int:=if x<y then-1 else if x>y then 1 else 0
theorem zpx (x y:Int) (hx:(zE x).length<=18) (hy:(zE y).length<=18) (w:zA):
 qJ 124 #[St (zE x),St (zE y)] w (.tuple #[.int .i64 (cmpZ x y),.int .i64 0]):=by
 obtain⟨x1,x2⟩:=lt18 hx;obtain⟨y1,y2⟩:=lt18 hy;have hb:=λW=>zdh x y (zO (zbf (by omega)) (by omega)) (zO (zbf (by omega)) (by omega)) W;have hs:=λW=>zdy x y hx hy W;have hc:∀W,zC zF 123 #[.int .i64 x,.int .i64 y] W λe w'=>e=.returned (.int .i64 (cmpZ x y))/\w'=W:=λW=>Tryz.cmp_Compare_int x y W;have HB:=hid hb;clear hb;have HC:=hid hc;clear hc;have HS:=hid hs;clear hs hx hy;go_enter Tryz.func124,Tryz.ntmps124;go_wp2_with fail;refine(HB.out w).mono ?_;rintro e w1 ⟨rfl,hB1⟩;go_wp2_with fail;refine(HS.out w1).mono ?_;rintro e w2 ⟨rfl,hb2⟩;have hB2:=hB1.trans (hb2.mono hB1.size);clear hb2 hB1;go_wp2_with fail;refine(HC.out w2).mono ?_;rintro e w3 ⟨rfl,rfl⟩;go_wp2_with fail;go_ret2;exact⟨rfl,hB2⟩
theorem zsw (x y:Int) (hx:digs x<=300) (hy:digs y<=300) (h:18<(zE x).length\/18<(zE y).length) (w:zA):
 qJ 124 #[St (zE x),St (zE y)] w (.tuple #[.int .i64 (cmpZ x y),.int .i64 0]):=by
 have hb:=λW=>zdh x y hx hy W;have hs:=λW=>ze8 x y h W;have r1:=λW=>zc3 x W (by omega);have r2:=λW=>zc3 y W (by omega);have l1:=zb4 (z:=x) (k:=100) (by omega) (by omega);have l2:=zb4 (z:=y) (k:=100) (by omega) (by omega);have HB:=hid hb;clear hb;have HS:=hid hs;clear hs hx hy h;have R1:=hid r1;have R2:=hid r2;clear r1 r2;go_enter Tryz.func124,Tryz.ntmps124;go_wp2_with fail;refine(HB.out w).mono ?_;rintro e w1 ⟨rfl,hB1⟩;go_wp2_with fail;refine(HS.out w1).mono ?_;rintro e w2 ⟨rfl,rfl⟩;go_wp2_with fail;refine(R1.out w1).mono ?_;rintro e w2 ⟨vx,rfl,hvx,hb2⟩;have hB2:=hB1.trans (hb2.mono hB1.size);clear hb2 hB1;have HVX:=hid hvx;clear hvx;go_wp2_with fail;refine(R2.out w2).mono ?_;rintro e w3 ⟨vy,rfl,hvy,hb3⟩;have hvx:=HVX.out.below hb3;have hB3:=hB2.trans (hb3.mono hB2.size);clear hb3 hB2 HVX;obtain⟨px,kx,cx,rfl, -⟩:=zbx hvx;obtain⟨py,ky,cy,rfl, -⟩:=zbx hvy;have HVX:=hid hvx;have HVY:=hid hvy;clear hvx hvy;have sx:=zcs x;have sy:=ztv y;generalize hbx:decide (x<0)=b1 at*
 generalize hby:decide (y<0)=b2 at*
 have SX:=hid sx;have SY:=hid sy;clear sx sy hbx hby
 go_wp2_with fail;have hB4:=(hB3.alloc hB3.size (.cells #[.bool b1,.slice px kx cx] 209)).alloc (by have:=hB3.size;simp;omega) (.cells #[.bool !b2,.slice py ky cy] 209);have hb4:qL w3 ((w3.alloc (.cells #[.bool b1,.slice px kx cx] 209)).alloc (.cells #[.bool !b2,.slice py ky cy] 209)):=((zM _ _).alloc (zN _) _).alloc (by simp) _;refine(zog _ _ (.slice px kx cx) (.slice py ky cy) _ _ _ (HVX.out.below hb4) (HVY.out.below hb4) (by omega) (by omega)).mono ?_;rintro e w5 ⟨m,v,n,rfl,hz,hv,hb5⟩;rw[SX.out,SY.out] at hz;obtain⟨p,k,c,rfl,hk⟩:=zbx hv;have hB5:=hB4.trans (hb5.mono hB4.size);clear hb4 hB4 hb5 hB3 HVX HVY;have hk0:k=0↔n=0:=by rw[hk];exact⟨λe=>(zbd (by decide) n).1 (List.length_eq_zero_iff.1 e),λe=>by rw[e,zaz];rfl⟩
 clear hk hv;have hfin:(n=0->cmpZ x y=0)/\(n≠0->m=true->cmpZ x y= -1)/\(n≠0->m=false->cmpZ x y=1):=by
  unfold cmpZ;refine⟨λh=>?_,λh1 h2=>?_,λh1 h2=>?_⟩
  ·subst h
   have:x=y:=by cases m<;>simp[sgn] at hz<;>omega
   rw[if_neg (by omega),if_neg (by omega)]
  ·subst h2;simp[sgn] at hz;rw[if_pos (by omega)]
  ·subst h2;simp[sgn] at hz;rw[if_neg (by omega),if_pos (by omega)]
 have HF:=hid hfin;clear hfin hz;have hBF:=hB5.alloc hB5.size (.cells #[.bool m,.slice p k c] 209);by_cases h0:n=0
 ·have hkz:((k:Int)==0)=true:=by rw[beq_iff_eq];have:=hk0.2 h0;omega
  have HH:=hid h0;clear h0 hk0;go_wp2_with fail;go_ret2;exact⟨by rw[HF.out.1 HH.out];rfl,hBF⟩
 ·have hkz:((k:Int)==0)=false:=by rw[beq_eq_false_iff_ne];have:=mt hk0.1 h0;omega
  have HH:=hid h0;clear h0 hk0;cases m
  ·go_wp2_with fail
   go_ret2;exact⟨by rw[HF.out.2.2 HH.out (by simp)];rfl,hBF⟩
  ·go_wp2_with fail
   go_ret2;exact⟨by rw[HF.out.2.1 HH.out (by simp)];rfl,hBF⟩
theorem zsx (x y:Int) (hx:digs x<=300) (hy:digs y<=300) (w:zA):
 qJ 124 #[St (zE x),St (zE y)] w (.tuple #[.int .i64 (cmpZ x y),.int .i64 0]):=by
 by_cases h:(zE x).length<=18/\(zE y).length<=18
 ·exact zpx x y h.1 h.2 w
 ·exact zsw x y hx hy (by omega) w
theorem zmt (a b:Int):Int.gcd b (a.tmod b)=Int.gcd a b:=by
 unfold Int.gcd;rw[Int.natAbs_tmod,Nat.gcd_comm b.natAbs,<-Nat.gcd_rec,Nat.gcd_comm]
theorem zq4 (x y:Int) (hx:digs x<=300) (hy:digs y<=300):digs (Int.gcd x y:Int)<=300:=by
 by_cases h0:x=0
 ·subst h0
  rw[Int.gcd_zero_left];unfold digs at*;simpa using hy
 ·rw[za3 _ _ (by omega)] at hx⊢
  rw[Int.natAbs_natCast];exact Nat.lt_of_le_of_lt (Nat.le_of_dvd (by omega) (Nat.gcd_dvd_left _ _)) hx
theorem zwu (x y:Int) (hx:(zE x).length<=18) (hy:(zE y).length<=18) (w:zA) (hw:Wd w):
 qJ 117 #[St (zE x),St (zE y)] w (.tuple #[St (zE (Int.gcd x y:Int)),.int .i64 0]):=by
 obtain⟨x1,x2⟩:=lt18 hx;obtain⟨y1,y2⟩:=lt18 hy;have hb:=λW=>zdh x y (zO (zbf (by omega)) (by omega)) (zO (zbf (by omega)) (by omega)) W;have hs:=λW=>zdy x y hx hy W;have HB:=hid hb;clear hb;have HS:=hid hs;clear hs hx hy;have HW:=hid hw;clear hw;obtain⟨g,hg⟩:∃g,g=Int.gcd x y:=⟨_,rfl⟩;rw[<-hg];have HG:=hid hg;clear hg;go_enter Tryz.func117,Tryz.ntmps117;go_wp2_with fail;refine(HB.out w).mono ?_;rintro e w1 ⟨rfl,hB1⟩;go_wp2_with fail;refine(HS.out w1).mono ?_;rintro e w2 ⟨rfl,hb2⟩;have hB2:=hB1.trans (hb2.mono hB1.size);clear hb2 hB1;go_wp2_with fail;go_loopw [7,8] (λa b wr=>∃m n:Int,a=.int .i64 m/\b=.int .i64 n/\Hid (Int.gcd m n=g)/\(-1000000000000000000<m/\m<1000000000000000000)/\(-1000000000000000000<n/\n<1000000000000000000)/\Hid (qL w wr))
  (λ_ b _=>(RowKit.intOf b).natAbs)
 case atStart=>exact⟨x,y,rfl,rfl,HG.out.symm,⟨x1,x2⟩,⟨y1,y2⟩,hB2⟩
 case round=>
  clear x1 x2 y1 y2 hB2;obtain⟨m,n,rfl,rfl,hgm,⟨m1,m2⟩,⟨n1,n2⟩,hBr⟩:=hrel;by_cases h0:n=0
  ·subst h0
   have hgm':Int.gcd m 0=g:=hgm.out;rw[Int.gcd_zero_right] at hgm';have hmx:max m (-m)=(g:Int):=by omega
   have HM:=hid hgm';clear hgm hgm';have hg1:(g:Int)<=1000000000000000000:=by omega
   have hneg:IntKind.i64.wrap (-m)= -m:=zI _ (by omega);go_wp2_with fail;refine(zb3 (g:Int) (by omega) (by omega) wr (HW.out.below hBr.out)).mono ?_;rintro e w3 ⟨rfl,hb3⟩;have hB3:=hBr.out.trans (hb3.mono hBr.out.size);clear hb3;go_wp2_with fail;go_ret2;exact⟨rfl,hB3⟩
  ·have hn0:(n !=0)=true:=by simpa using h0
   have ht1:(m.tmod n).natAbs<n.natAbs:=by rw[Int.natAbs_tmod];exact Nat.mod_lt _ (by omega)
   obtain⟨t,ht⟩:∃t,t=m.tmod n:=⟨_,rfl⟩;have hgt:=zmt m n;rw[<-ht] at ht1 hgt;have hwr:IntKind.i64.wrap (m.tmod n)=t:=by rw[<-ht];exact zI _ (by omega)
   have HGT:=hid hgt;have HT:=hid ht;clear hgt ht hwr;go_wp2
   (refine wp_region_quiet_lit (by kernel_rfl) (by kernel_rfl) (WQ.out ?_);(repeat(first|(apply WQ.read (by rfl);(focus(rintro W ⟨n,rfl⟩;go_simp;try with_reducible rfl));try simp only[zzQ])|(apply WQ.skip (by rfl);try simp only[zzQ])));refine WQ.nil ?_;rintro _ ⟨nq,rfl⟩)
   go_wp2;go_roundw
   case rel=>exact⟨n,t,rfl,by rw[HT.out],HGT.out.trans hgm.out,⟨n1,n2⟩,by omega,zao hBr.out _⟩
   case measure=>show(m.tmod n).natAbs<n.natAbs;rw[<-HT.out];exact ht1
theorem znj (b:Bool) (p:Option Addr) (k c:Nat) (W:zA):(Instr.field 209 (.agg #[.bool b,.slice p k c]) 1).run zF W=.ok (.slice p k c) W:=by kernel_rfl
theorem zkx (a b:Nat):Nat.gcd b (a%b)=Nat.gcd a b:=by
 rw[Nat.gcd_comm b,<-Nat.gcd_rec,Nat.gcd_comm]
theorem z1i (x y:Int) (hx:digs x<=300) (hy:digs y<=300) (h:18<(zE x).length\/18<(zE y).length) (w:zA) (hw:Wd w):
 qJ 117 #[St (zE x),St (zE y)] w (.tuple #[St (zE (Int.gcd x y:Int)),.int .i64 0]):=by
 have hb:=λW=>zdh x y hx hy W;have hs:=λW=>ze8 x y h W;have r1:=λW=>zc3 x W (by omega);have r2:=λW=>zc3 y W (by omega);have l1:=zb4 (z:=x) (k:=100) (by omega) (by omega);have l2:=zb4 (z:=y) (k:=100) (by omega) (by omega);have hgd:=zq4 x y hx hy;have HB:=hid hb;clear hb;have HS:=hid hs;clear hs hx hy h;have HW:=hid hw;clear hw;have R1:=hid r1;have R2:=hid r2;clear r1 r2;obtain⟨g,hg⟩:∃g,g=Int.gcd x y:=⟨_,rfl⟩;rw[<-hg] at hgd⊢;have HG:=hid hg;clear hg;have hfd:=znj;go_enter Tryz.func117,Tryz.ntmps117;go_wp2_with fail;refine(HB.out w).mono ?_;rintro e w1 ⟨rfl,hB1⟩;go_wp2_with fail;refine(HS.out w1).mono ?_;rintro e w2 ⟨rfl,rfl⟩;go_wp2_with fail;refine(R1.out w1).mono ?_;rintro e w2 ⟨vx,rfl,hvx,hb2⟩;have hB2:=hB1.trans (hb2.mono hB1.size);clear hb2 hB1;obtain⟨px,kx,cx,rfl, -⟩:=zbx hvx;have HVX:=hid hvx;clear hvx;go_wp2_with fail;refine(R2.out w2).mono ?_;rintro e w3 ⟨vy,rfl,hvy,hb3⟩;have hvx:=HVX.out.below hb3;have hB3:=hB2.trans (hb3.mono hB2.size);clear hb3 hB2 HVX;obtain⟨py,ky,cy,rfl, -⟩:=zbx hvy;have HVX:=hid hvx;have HVY:=hid hvy;clear hvx hvy;go_wp2;go_loopg [10,11] y.natAbs (λk va vb wr=>∃a b p kb c,vb=.slice p kb c/\Hid (k=b)/\Hid (kb=(zaa B9 b).length)/\(zaa B9 a).length<=100/\(zaa B9 b).length<=100/\Hid (Sl wr va ((zaa B9 a).map I))/\Hid (Sl wr vb ((zaa B9 b).map I))/\Hid (Nat.gcd a b=g)/\Hid (qL w wr))
 case atStart=>
  obtain⟨p,k,c,e,hk⟩:=zbx HVY.out;cases e;exact⟨x.natAbs,y.natAbs,py,ky,cy,rfl,rfl,hk,l1,l2,HVX.out,HVY.out,HG.out.symm,hB3⟩
 case round=>
  clear HVX HVY hB3;obtain⟨a,b,p,kb,c,rfl,hk,hkb,la,lb,hva,hvb,hgc,hBr⟩:=hrel;by_cases h0:kb=0
  ·have hb0:b=0:=(zbd (B:=B9) (by decide) b).1 (List.length_eq_zero_iff.1 (by rw[<-hkb.out];exact h0))
   have hga:a=g:=by have:=hgc.out;rw[hb0,Nat.gcd_zero_right] at this;exact this
   have hz0:¬(0:Int)<kb:=by omega
   have HA:=hid hga;clear hga;have HB0:=hid hb0;clear hb0;have HK0:=hid h0;clear h0;obtain⟨p1,k1,c1,rfl, -⟩:=zbx hva.out;have hres:=zez false _ a wr (HW.out.below hBr.out) hva.out (by omega);rw[zkw,HA.out,zcf hgd,zcg hgd] at hres;have HRES:=hid hres;clear hres;go_wp2_with fail;refine HRES.out.mono ?_;rintro e w4 ⟨rfl,hb4⟩;have hB4:=hBr.out.trans (hb4.mono hBr.out.size);clear hb4;go_wp2_with fail;go_ret2;exact⟨rfl,hB4⟩
  ·have hz0:(0:Int)<kb:=by omega
   have hb0:b≠0:=λe=>h0 (by rw[hkb.out,e,zaz];rfl);go_wp2_with fail;refine(znf _ (.slice p kb c) a b wr hva.out hvb.out (by omega) (by omega) hb0).mono ?_;rintro e w4 ⟨v1,v2,rfl,hs1,hs2,hb4⟩;have hB4:=hBr.out.trans (hb4.mono hBr.out.size);have hvb4:=hvb.out.below hb4;obtain⟨p2,k2,c2,rfl,hk2⟩:=zbx hs2;have HS2:=hid hs2;have HB4:=hid hB4;have HVB:=hid hvb4;have HK2:=hid hk2;have HB0:=hid hb0;clear hs1 hs2 hb4 hB4 hvb4 hk2 hb0 hva hvb hBr;go_wp2;go_roundg (a%b)
   case measure=>rw[hk.out];exact Nat.mod_lt _ (yS HB0.out)
   case rel=>exact⟨b,a%b,p2,k2,c2,rfl,rfl,HK2.out,lb,zO (zd6 (by decide) (Nat.le_of_lt (Nat.mod_lt _ (yS HB0.out)))) lb,HVB.out,HS2.out,(zkx a b).trans hgc.out,HB4.out⟩
theorem ztw (x y:Int) (hx:digs x<=300) (hy:digs y<=300) (w:zA) (hw:Wd w):
 qJ 117 #[St (zE x),St (zE y)] w (.tuple #[St (zE (Int.gcd x y:Int)),.int .i64 0]):=by
 by_cases h:(zE x).length<=18/\(zE y).length<=18
 ·exact zwu x y h.1 h.2 w hw
 ·exact z1i x y hx hy (by omega) w hw
theorem zq5 (x y q:Int) (hq:x=q*y) (hy0:0<y) (hx:(zE x).length<=18) (hy:(zE y).length<=18) (w:zA) (hw:Wd w):
 qJ 118 #[St (zE x),St (zE y)] w (.tuple #[St (zE q),St [48],.int .i64 0]):=by
 obtain⟨x1,x2⟩:=lt18 hx;obtain⟨y1,y2⟩:=lt18 hy;have hb:=λW=>zdh x y (zO (zbf (by omega)) (by omega)) (zO (zbf (by omega)) (by omega)) W;have hs:=λW=>zdy x y hx hy W;have hqa:q.natAbs<=x.natAbs:=by rw[hq,yK];exact Nat.le_mul_of_pos_right _ (by omega)
 have hit:=λW hW=>zb3 q (by omega) (by omega) W hW;have hiz:=λW hW=>zb3 0 (by omega) (by omega) W hW;have hd:x.tdiv y=q:=by rw[hq];exact Int.mul_tdiv_cancel _ (by omega)
 have hm:x.tmod y=0:=by rw[hq];exact Int.mul_tmod_left _ _
 have w1:IntKind.i64.wrap (x.tdiv y)=q:=by rw[hd];exact zI _ (by omega)
 have w2:IntKind.i64.wrap (x.tmod y)=0:=by rw[hm];rfl
 rw[zb9] at hiz;have hyn:(zE y==[48])=false:=by rw[beq_eq_false_iff_ne,<-zb9];exact λh=>by have:=zdo h;omega
 have hne:¬zE y=[48]:=by simpa using hyn
 have hy1:¬y=0:=by omega
 have HB:=hid hb;clear hb;have HIT:=hid hit;clear hit;have HIZ:=hid hiz;clear hiz;have HS:=hid hs;have HQD:=hid hd;have HMD:=hid hm;clear hs hx hy hq hd hm hqa;have HW:=hid hw;clear hw;go_enter Tryz.func118,Tryz.ntmps118;go_wp2_with fail;refine(HB.out w).mono ?_;rintro e w3 ⟨rfl,hB1⟩;go_wp2_with fail;refine(HS.out w3).mono ?_;rintro e w4 ⟨rfl,hb2⟩;have hB2:=hB1.trans (hb2.mono hB1.size);clear hb2 hB1;go_wp2_with fail
 (refine wp_region_quiet_lit (by kernel_rfl) (by kernel_rfl) (WQ.out ?_);(repeat(first|(apply WQ.read (by rfl);(focus(rintro W ⟨n,rfl⟩;go_simp;try with_reducible rfl));try simp only[zzQ])|(apply WQ.skip (by rfl);try simp only[zzQ])));refine WQ.nil ?_;rintro _ ⟨nq,rfl⟩)
 go_wp2_with fail;have hB3:=zao hB2 nq;refine(HIT.out (w4.drewN nq) (HW.out.below hB3)).mono ?_;rintro e w5 ⟨rfl,hb5⟩;have hB5:=hB3.trans (hb5.mono hB3.size);clear hb5 hB3 hB2;go_wp2_with fail;refine(HIZ.out w5 (HW.out.below hB5)).mono ?_;rintro e w6 ⟨rfl,hb6⟩;have hB6:=hB5.trans (hb6.mono hB5.size);clear hb6 hB5;go_wp2_with fail;go_ret3;exact⟨rfl,hB6⟩
theorem ztx (x y q:Int) (hq:x=q*y) (hy:0<y):sgn (decide (x<0) !=decide (y<0)) (x.natAbs/y.natAbs)=q/\x.natAbs%y.natAbs=0:=by
 have h1:x.natAbs=q.natAbs*y.natAbs:=by rw[hq,yK]
 have h2:0<y.natAbs:=by omega
 rw[h1,Nat.mul_div_cancel _ h2,Nat.mul_mod_left];refine⟨?_,rfl⟩;have e:decide (y<0)=false:=by simp;omega
 rw[e,Bool.bne_false];have e2:decide (x<0)=decide (q<0):=by
  rw[hq];by_cases h:q<0
  ·have:q*y<0:=Int.mul_neg_of_neg_of_pos h hy
   simp[h,this]
  ·have:0<=q*y:=Int.mul_nonneg (by omega) (by omega)
   simp[h];omega
 rw[e2];exact zcs q
theorem zuy (x y q:Int) (hq:x=q*y) (hy0:0<y) (hx:digs x<=300) (hy:digs y<=300) (h:18<(zE x).length\/18<(zE y).length) (w:zA) (hw:Wd w):
 qJ 118 #[St (zE x),St (zE y)] w (.tuple #[St (zE q),St [48],.int .i64 0]):=by
 have hb:=λW=>zdh x y hx hy W;have hs:=λW=>ze8 x y h W;have r1:=λW=>zc3 x W (by omega);have r2:=λW=>zc3 y W (by omega);have l1:=zb4 (z:=x) (k:=100) (by omega) (by omega);have l2:=zb4 (z:=y) (k:=100) (by omega) (by omega);obtain⟨s1,s2⟩:=ztx x y q hq hy0;have hqd:digs q<=300:=by
  have hqa:q.natAbs<=x.natAbs:=by rw[hq,yK];exact Nat.le_mul_of_pos_right _ (by omega)
  rw[za3 _ _ (by omega)] at hx⊢;exact Nat.lt_of_le_of_lt hqa hx
 have hyn:(zE y==[48])=false:=by rw[beq_eq_false_iff_ne,<-zb9];exact λh=>by have:=zdo h;omega
 have hne:¬zE y=[48]:=by simpa using hyn
 have hm0:y.natAbs≠0:=by omega
 have lq:=zd6 (B:=B9) (by decide) (Nat.div_le_self x.natAbs y.natAbs);have HB:=hid hb;clear hb;have HS:=hid hs;clear hs hx hy h;have HW:=hid hw;clear hw;have R1:=hid r1;have R2:=hid r2;clear r1 r2;have S1:=hid s1;have S2:=hid s2;clear s1 s2;have HQ:=hid hq;clear hq;go_enter Tryz.func118,Tryz.ntmps118;go_wp2_with fail;refine(HB.out w).mono ?_;rintro e w1 ⟨rfl,hB1⟩;go_wp2_with fail;refine(HS.out w1).mono ?_;rintro e w2 ⟨rfl,rfl⟩;go_wp2_with fail;refine(R1.out w1).mono ?_;rintro e w2 ⟨vx,rfl,hvx,hb2⟩;have hB2:=hB1.trans (hb2.mono hB1.size);clear hb2 hB1;obtain⟨px,kx,cx,rfl, -⟩:=zbx hvx;have HVX:=hid hvx;clear hvx;go_wp2_with fail;refine(R2.out w2).mono ?_;rintro e w3 ⟨vy,rfl,hvy,hb3⟩;have hvx:=HVX.out.below hb3;have hB3:=hB2.trans (hb3.mono hB2.size);clear hb3 hB2 HVX;obtain⟨py,ky,cy,rfl, -⟩:=zbx hvy;have HVX:=hid hvx;have HVY:=hid hvy;clear hvx hvy;have hby2:decide (y<0)=false:=by simp;omega
 generalize hbx:decide (x<0)=b1 at*
 rw[hby2] at*
 have HBX:=hid hbx;clear hbx hby2;go_wp2_with fail;have hB4:=(hB3.alloc hB3.size (.cells #[.bool b1,.slice px kx cx] 209)).alloc (by have:=hB3.size;simp;omega) (.cells #[.bool false,.slice py ky cy] 209);have hb4:qL w3 ((w3.alloc (.cells #[.bool b1,.slice px kx cx] 209)).alloc (.cells #[.bool false,.slice py ky cy] 209)):=((zM _ _).alloc (zN _) _).alloc (by simp) _;have b1k:=(Below.heap_alloc (w3.alloc (.cells #[.bool b1,.slice px kx cx] 209)) (.cells #[.bool false,.slice py ky cy] 209) w3.heap.size (by simp)).trans (zG w3 (.cells #[.bool b1,.slice px kx cx] 209));have b2k:=zG (w3.alloc (.cells #[.bool b1,.slice px kx cx] 209)) (.cells #[.bool false,.slice py ky cy] 209);rw[zH] at b2k;refine(znf (.slice px kx cx) (.slice py ky cy) _ _ _ (HVX.out.below hb4) (HVY.out.below hb4) (by omega) (by omega) hm0).mono ?_;rintro e w5 ⟨v1,v2,rfl,hs1,hs2,hb5⟩;rw[S2.out] at hs2;rw[zaz] at hs2;obtain⟨p1,k1,c1,rfl, -⟩:=zbx hs1;obtain⟨p2,k2,c2,rfl,hk2⟩:=zbx hs2;rw[List.length_nil] at hk2;subst hk2;have hB5:=hB4.trans (hb5.mono hB4.size);have b1k:=(hb5.block w3.heap.size (by simp only[zH];omega)).trans b1k;have b2k:=(hb5.block (w3.heap.size+1) (by simp only[zH];omega)).trans b2k;have c1k:w5.cell? ⟨w3.heap.size,0,none⟩=some (.bool b1):=by simp[World.cell?,b1k]
 have c2k:w5.cell? ⟨w3.heap.size+1,0,none⟩=some (.bool false):=by simp[World.cell?,b2k]
 have lz:w3.heap.size+1<w5.heap.size:=(Array.getElem?_eq_some_iff.1 b2k).1;have HV1:=hid hs1;have HV2:=hid hs2;clear hb4 hB4 hb5 hs1 hs2 hB3 HVX HVY b1k b2k;have rs:=zez (b1 !=false) (.slice p1 k1 c1) (x.natAbs/y.natAbs) w5 (HW.out.below hB5) HV1.out (by omega);rw[S1.out,zcf hqd,zcg hqd] at rs;rw[Bool.bne_false] at rs;have RS:=hid rs;clear rs;cases b1
 all_goals
  go_wp2_with fail;refine RS.out.mono ?_;rintro e w6 ⟨rfl,hb6⟩;have hB6:=hB5.trans (hb6.mono hB5.size);have d1:=(hb6.cell (p:=⟨w3.heap.size,0,none⟩) (by show w3.heap.size<w5.heap.size;omega)).trans c1k;have d2:=(hb6.cell (p:=⟨w3.heap.size+1,0,none⟩) lz).trans c2k;have rt:=zez false (.slice p2 0 c2) 0 w6 (HW.out.below hB6) (by rw[zaz];exact HV2.out.below hb6) (by rw[zaz];simp);rw[show sgn false 0=0 from rfl,zcf (zO (zbf (z:=0) (by omega)) (by omega)),zcg (zO (zbf (z:=0) (by omega)) (by omega)),zb9] at rt;have RT:=hid rt;clear rt hb6 c1k c2k hB5;go_wp2_with fail;refine RT.out.mono ?_;rintro e w7 ⟨rfl,hb7⟩;have hB7:=hB6.trans (hb7.mono hB6.size);clear hb7 hB6;go_wp2_with fail;go_ret3;exact⟨rfl,hB7⟩
theorem zky (x y q:Int) (hq:x=q*y) (hy0:0<y) (hx:digs x<=300) (hy:digs y<=300) (w:zA) (hw:Wd w):
 qJ 118 #[St (zE x),St (zE y)] w (.tuple #[St (zE q),St [48],.int .i64 0]):=by
 by_cases h:(zE x).length<=18/\(zE y).length<=18
 ·exact zq5 x y q hq hy0 h.1 h.2 w hw
 ·exact zuy x y q hq hy0 hx hy (by omega) w hw
end Go.Proofs.YtheinkfbiedidaaGreatDoor
