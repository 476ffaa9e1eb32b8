/- integer.write, result. -/
import Derived.Test.YtccijmidbdapaaaGreatDoorJ06
set_option maxRecDepth 100000
set_option maxHeartbeats 8000000
open Go renaming World → zA
open Go.Lib renaming decDigits → zD, itoa → zE
open Go.Proofs.Tryz renaming prog → zF
open Go.World renaming alloc_heap_new → zG, size_alloc → zH
open Go.RowKit.Below renaming refl → zM, heap_setCell → yE
open Nat renaming le_refl → zN
open List renaming length_append → zU, length_map → zV
namespace Go.Proofs.YtccijmidbdapaaaGreatDoor
open Go.RowKit Go.Shelf Lib Str Limb
attribute [local go_sem] Oper.semAt_some
theorem zpw {W W':zA} (h:CellsKept W W') {B:Nat} {e:TypeId} {v:Value} {n:Nat} {xs:List Value} (ho:W.ownsRowF B e 1 v n xs):W'.ownsRowF B e 1 v n xs:=by
 obtain⟨h1,h2⟩:=ho
 refine⟨h1,h2.imp id ?_⟩
 rintro⟨g,cap,cur,fz,e1,e2,e3,e4⟩
 exact⟨g,cap,cur,fz,e1,e2,h _ _ _ _ e3,e4⟩
theorem BuilderAtF.kept {W W':zA} (h:CellsKept W W') {T e:TypeId} {B b:Nat} {p:Value} {bs:List Value} (ho:BuilderAtF T e B b p bs W):BuilderAtF T e B b p bs W':=by
 obtain⟨h1,v,h2,h3,h4⟩:=ho
 exact⟨h1,v,h _ _ _ _ h2,zpw h h3,h4⟩
theorem IsBuilderF.kept {W W':zA} (h:CellsKept W W') {T e:TypeId} {B b:Nat} {bs:List Value} (ho:IsBuilderF T e B b bs W):IsBuilderF T e B b bs W':=
 ho.imp (BuilderAtF.kept h) (BuilderAtF.kept h)
theorem zl5 (W:zA) (B:Nat) (hB:B<=W.heap.size):IsBuilderF 215 5 B W.heap.size (byteCells []) (W.alloc (.cells #[.pointer none,.slice none 0 0] 215)):=
 .inl ⟨hB,.slice none 0 0,zG _ _,⟨rfl,.inl ⟨rfl,rfl⟩⟩,by simp[Value.ownBlock]⟩
theorem zl6 {W:zA} {T e:TypeId} {B b:Nat} {bs:List Value} (h:IsBuilderF T e B b bs W):∃cs,W.heap[b]? =some (.cells cs T (0,0)):=by
 rcases h with⟨_,v,h,_⟩|⟨_,v,h,_⟩<;>exact⟨_,h⟩
theorem zcy {W W':zA} {T e:TypeId} {B b:Nat} {bs:List Value} (h:IsBuilderF T e B b bs W) (hb:Below B W W') (hk:OthersKept e (some b) W W') (B':Nat):KeepsFrom B' W W':=
 ⟨hb.size,λk o _ hko ho=>by
   refine hk k o hko (λe=>?_) (λc fz e=>by subst e;cases ho)
   cases e
   obtain⟨cs,hcs⟩:=zl6 h
   rw[hcs] at hko;cases hko;cases ho⟩
theorem zms {W W':zA} {T e t:TypeId} {B b k:Nat} {bs:List Value} {cs:Array Value} (h:IsBuilderF T e B b bs W) (hk:OthersKept e (some b) W W') (hb:W.heap[k]? =some (.cells cs t (0,0))) (h1:t≠T) (h2:t≠e):W'.heap[k]? =some (.cells cs t (0,0)):=by
 refine hk k _ hb (λe=>?_) (λc fz e=>by cases e;exact h2 rfl)
 cases e
 obtain⟨cs',hcs⟩:=zl6 h
 rw[hcs] at hb;cases hb;exact h1 rfl
structure WriI (w:zA) (b1 b Bs:Nat) (m:Bool) (va:Value) (out:List UInt8) (W:zA):Prop where
 st:W.heap[b1]? =some (.cells #[.bool m,va] 125 (0,0))
 bd:IsBuilderF 215 5 w.heap.size b (byteCells out) W
 bb:Boxed W Bs 123 va
 below:qL w W
section
variable {w W W':zA} {b1 b Bs:Nat} {m:Bool} {va:Value} {out out':List UInt8}
theorem WriI.kept (h:WriI w b1 b Bs m va out W) (hk:CellsKept W W') (hb:Below w.heap.size W W'):WriI w b1 b Bs m va out W':=
 ⟨hk _ _ _ _ h.st,IsBuilderF.kept hk h.bd,hk.boxed h.bb,h.below.trans hb⟩
theorem WriI.grow (h:WriI w b1 b Bs m va out W) (hb:qL W W'):WriI w b1 b Bs m va out W':=h.kept (zac hb) (hb.mono h.below.size)
theorem WriI.more (h:WriI w b1 b Bs m va out W) (hd:IsBuilderF 215 5 w.heap.size b (byteCells out') W') (hb:Below w.heap.size W W') (hk:OthersKept 5 (some b) W W'):WriI w b1 b Bs m va out' W':=
 ⟨zms h.bd hk h.st (by decide) (by decide),hd,zms h.bd hk h.bb (by decide) (by decide),h.below.trans hb⟩
end
theorem zhy:∀c,repeatL [48] c=List.replicate c 48
 |0=>rfl
 |c+1=>by rw[repeatL,zhy c];rfl
def zdt (m:Bool) (l:List Nat) (k:Nat):List UInt8:=(if m then[45] else[])++(if k=0 then[] else zD (valL B9 (l.drop (l.length-k))))
theorem zg9 (m:Bool) (l:List Nat):zdt m l 0=(if m then[45] else[]):=by simp[zdt]
theorem zgt (m:Bool) (l:List Nat) {k:Nat} (h:k≠0):zdt m l k=(if m then[45] else[])++zD (valL B9 (l.drop (l.length-k))):=by simp[zdt,h]
theorem zl7 (m:Bool) {l:List Nat} (h:0<l.length):zdt m l 0++zD (l[l.length-1]?.getD 0)=zdt m l 1:=by
 rw[zg9,zgt m l (by omega),zdu l (l.length-1) B9 (by omega),List.drop_of_length_le (by omega)]
 simp[valL,show l.length-1<l.length by omega]
theorem znh (m:Bool) {n k:Nat} (hk:k<(zaa B9 n).length) (h0:k≠0):
 (zdt m (zaa B9 n) k++List.replicate (9-(zD ((zaa B9 n)[(zaa B9 n).length-1-k]?.getD 0)).length) 48)++zD ((zaa B9 n)[(zaa B9 n).length-1-k]?.getD 0)=zdt m (zaa B9 n) (k+1):=by
 have hs:=zak (B:=B9) (by decide) n
 have hx:=zaj hs (by decide) ((zaa B9 n).length-1-k)
 have hpos:=zpv (B:=B9) (by decide) (n:=n) (k:=(zaa B9 n).length-k) (by omega)
 have hw:=zut (p:=9) hs ((zaa B9 n).length-1-k) (by omega) (by rw[show(zaa B9 n).length-1-k+1=(zaa B9 n).length-k by omega];exact hpos)
 rw[zgt m _ h0,zgt m _ (by omega),show(zaa B9 n).length-(k+1)=(zaa B9 n).length-1-k by omega]
 have hw':zD (valL B9 ((zaa B9 n).drop ((zaa B9 n).length-1-k)))=zD (valL B9 ((zaa B9 n).drop ((zaa B9 n).length-k)))++padD 9 ((zaa B9 n)[(zaa B9 n).length-1-k]?.getD 0):=by
  rw[show(zaa B9 n).length-k=(zaa B9 n).length-1-k+1 by omega];exact hw
 rw[hw',zjv 9 _ (by omega) hx]
 simp[List.append_assoc]
theorem zo2 (m:Bool) {n:Nat} (h:0<n):zdt m (zaa B9 n) (zaa B9 n).length=zE (if m then-(n:Int) else n):=by
 have hl:(zaa B9 n).length≠0:=λe=>by have:=(zbd (B:=B9) (by decide) n).1 (List.length_eq_zero_iff.1 e);omega
 rw[zgt m _ hl,Nat.sub_self,List.drop_zero,zam (by decide)]
 cases m
 ·simp[Str.zad]
 ·simp[Str.zga n h]
theorem zo3 (m:Bool) (n k:Nat) (h0:0<n):(zdt m (zaa B9 n) k).length<=9*(zaa B9 n).length+1:=by
 have h3:(if m then[45] else[]:List UInt8).length<=1:=by cases m<;>simp
 by_cases hk:k=0
 ·subst hk;rw[zg9];omega
 ·rw[zgt m _ hk,zU]
  by_cases hl:(zaa B9 n).length=0
  ·have:=(zbd (B:=B9) (by decide) n).1 (List.length_eq_zero_iff.1 hl)
   omega
  ·have h1:=zb6 (zg5 (zak (B:=B9) (by decide) n) ((zaa B9 n).length-k))
   have h2:B9^((zaa B9 n).drop ((zaa B9 n).length-k)).length<=B9^(zaa B9 n).length:=Nat.pow_le_pow_right (by decide) (by simp)
   have h4:=(zaf (valL B9 ((zaa B9 n).drop ((zaa B9 n).length-k))) (9*(zaa B9 n).length) (by omega)).2 (by rw[Nat.pow_mul];exact Nat.lt_of_lt_of_le h1 h2)
   omega
theorem zuw (m:Bool) (va:Value) (w:zA) (ha:Sl w va (([]:List Nat).map I)):
 qJ 115 #[.agg #[.bool m,va]] w (St [48]):=by
 obtain⟨pa,ca,rfl, -⟩:=ha
 refine(callsIn_wide (n:=3)).1 ?_
 refine callsIn_of_wp_marks Tryz.func115 rfl trivial ?_ rfl
 simp only[Tryz.ntmps115,List.size_toArray,List.length_cons,List.length_nil,Nat.reduceAdd,Nat.reduceSub,Array.replicate_succ,Array.replicate_zero,List.push_toArray,List.append_toArray,List.nil_append,List.cons_append]
 gi_wp2
 exact⟨.string ⟨#[48]⟩,by simp[results,Tryz.f115,go_sem],rfl,(zM _ w).alloc (zN _) _⟩
theorem zwp (m:Bool) (va:Value) (n:Nat) (z:Int) (hz:z=if m then-(n:Int) else n) (w:zA) (hw:Wd w) (ha:Sl w va ((zaa B9 n).map I)) (h0:0<n) (hlen:(zaa B9 n).length<=1000):
 qJ 115 #[.agg #[.bool m,va]] w (St (zE z)):=by
 have HZ:=hid hz;clear hz
 obtain⟨pa,ca,rfl, -⟩:=id ha
 simp only[zV] at*
 have HA:=hid ha;clear ha
 have hl0:0<(zaa B9 n).length:=Nat.pos_of_ne_zero λe=>by have:=(zbd (B:=B9) (by decide) n).1 (List.length_eq_zero_iff.1 e);omega
 obtain⟨len,hL⟩:∃k,k=(zaa B9 n).length:=⟨_,rfl⟩
 rw[<-hL] at HA hl0 hlen⊢
 have HL:=hid hL;clear hL
 have HW:=hid hw;clear hw
 have hne:((len:Int)==0)=false:=by rw[beq_eq_false_iff_ne];omega
 refine(callsIn_wide (n:=3)).1 ?_
 refine callsIn_of_wp_marks Tryz.func115 rfl trivial ?_ rfl
 simp only[Tryz.ntmps115,List.size_toArray,List.length_cons,List.length_nil,Nat.reduceAdd,Nat.reduceSub,Array.replicate_succ,Array.replicate_zero,List.push_toArray,List.append_toArray,List.nil_append,List.cons_append]
 cases m
 ·gi_wp2_with (refine⟨trivial,?_⟩;gi_at_call 155;refine(callsIn_wide.2 (zhu _ _ _ _ _ rfl)).mono ?_;rintro e w' ⟨rfl,rfl⟩)
  have hI:WriI w w.heap.size (w.heap.size+1) (w.heap.size+1+1) false (.slice pa len ca) (zdt false (zaa B9 n) 0) (((w.alloc (.cells #[.bool false,.slice pa len ca] 125)).alloc (.cells #[.pointer none,.slice none 0 0] 215)).alloc (.cells #[.slice pa len ca] 123)):=by
   have h1:=zl5 (w.alloc (.cells #[.bool false,.slice pa len ca] 125)) w.heap.size (by simp)
   have h2:=Boxed.new ((w.alloc (.cells #[.bool false,.slice pa len ca] 125)).alloc (.cells #[.pointer none,.slice none 0 0] 215)) 123 (.slice pa len ca)
   simp only[zH] at h1 h2
   refine⟨?_,by rw[zg9];exact h1.alloc _,h2,(((zM _ w).alloc (zN _) _).alloc (by simp) _).alloc (by simp;omega) _⟩
   exact(Below.heap_alloc _ _ _ (by simp only[zH];omega)).trans ((Below.heap_alloc _ _ _ (by simp only[zH];omega)).trans (zG w _))
  generalize (((w.alloc (.cells #[.bool false,.slice pa len ca] 125)).alloc (.cells #[.pointer none,.slice none 0 0] 215)).alloc (.cells #[.slice pa len ca] 123))=W5 at*
  obtain⟨Bs,hBs⟩:∃Bs,Bs=w.heap.size+1+1:=⟨_,rfl⟩
  rw[<-hBs] at hI⊢
  clear hBs
  have hW5:=hI.below.size
  refine zkt Bs len ca pa (λi x=>x=(((zaa B9 n)[i]?.getD 0:Nat):Int)) (RdSl Bs (.slice pa len ca) (zaa B9 n)) (by omega)
   (λW h=>by have:=RdSl.read (l:=zaa B9 n) (cap:=ca) (p:=pa) (by rw[<-HL.out];exact h);rw[<-HL.out] at this;exact this) rfl rfl (B:=w.heap.size) hI.below.size
   (λk W=>WriI w w.heap.size (w.heap.size+1) Bs false (.slice pa len ca) (zdt false (zaa B9 n) k) W) (λ_ _ _=>False)
   (λk W W' h hk hb=>h.kept hk hb) (λ_ _ _ _ h _ _=>h) (λk W h=>⟨h.bb.cell,HA.out.below h.below⟩) hI ?_ ?assignfalse ?bodyfalse ?donefalse ?stopfalse
  case stopfalse=>exact λ_ _ _ _ _ h _=>h.elim
  case assignfalse=>
   intro lp j x W K hK
   gi_wp2
   exact hK
  case bodyfalse=>
   rintro lp k j x W hlp-hI hk hj hx
   have hxs:=zaj (zak (B:=B9) (by decide) n) (by decide) j
   obtain⟨y,hy⟩:∃y,y=(zaa B9 n)[j]?.getD 0:=⟨_,rfl⟩
   rw[<-hy] at hx hxs
   subst hx
   have hy9:y<1000000000:=hxs
   have HY:=hid hy;clear hy hxs
   have hsi:(zD y).length<=9:=(zaf y 9 (by omega)).2 hy9
   have hsi1:1<=(zD y).length:=by have:=zbn (y:Int);unfold digs at this;simpa using this
   have hit:=λW hW=>zb3 (y:Int) (by omega) (by omega) W hW
   rw[Str.zad] at hit
   have HIT:=hid hit;clear hit
   obtain⟨s,hs⟩:∃s:ByteArray,s=⟨(zD y).toArray⟩:=⟨_,rfl⟩
   have hsz:s.size=(zD y).length:=by rw[hs];show(zD y).toArray.size=_;simp
   rw[<-hs] at HIT
   have HS:=hid hs;clear hs
   have hs9:s.size<=9:=by omega
   have hs1:1<=s.size:=by omega
   have HSZ:=hid hsz;clear hsz hsi hsi1
   have hol:=zo3 false n k h0
   rw[<-HL.out] at hol
   have cs:=hI.st
   have c1:W.cell? ⟨w.heap.size,1,none⟩=some (.slice pa len ca):=by simp[World.cell?,cs]
   clear cs
   gi_wp2_with (refine⟨trivial,?_⟩;gi_at_call 64;refine(CallsIn.inRound lp (callsIn_wide.2 (HIT.out W (HW.out.below hI.below)))).mono ?_)
   rintro e W1 ⟨rfl,hb1⟩
   have hI1:=hI.grow hb1
   have kW1:=(za0 hb1).from W5.heap.size
   clear c1 hb1
   have cs:=hI1.st
   have c1:W1.cell? ⟨w.heap.size,1,none⟩=some (.slice pa len ca):=by simp[World.cell?,cs]
   clear cs
   have hws:=λbs W h1 h2 h3=>Tryz.WriteString_k w.heap.size (w.heap.size+1) (byteCells bs) s W h1 h2 h3
   simp only[strCells_eq,<-byteCells_append] at hws
   rw[show s.data.toList=zD y by rw[HS.out]] at hws
   have HWS:=hid hws;clear hws
   by_cases hk0:k=0
   ·have hjl:¬(j:Int)<(len:Int)-1:=by omega
    gi_wp2_with (refine⟨trivial,?_⟩;gi_at_call 156;refine(CallsIn.inRound lp (callsIn_wide.2 (HWS.out _ W1 hI1.bd (by rw[byteCells_length];omega) hI1.below.size))).mono ?_)
    rintro e W2 ⟨rfl,hbd,hb2,hk2⟩
    have hI2:=hI1.more (.inr hbd) hb2 hk2
    have kW2:=kW1.trans (zcy hI1.bd hb2 hk2 W5.heap.size)
    clear hbd hb2 hk2 c1 kW1
    have HI2:=hid hI2;clear hI2
    have KW2:=hid kW2;clear kW2
    have HK0:=hid hk0;clear hk0 hI hI1
    have HJ:=hid hj;clear hj
    gi_wp2
    refine⟨KW2.out,?_⟩
    have hf:=HI2.out
    have e:=zl7 false (l:=zaa B9 n) (by rw[<-HL.out];omega)
    rw[HY.out,HJ.out,HK0.out,HL.out,Nat.sub_zero,e,<-HL.out] at hf
    rw[HK0.out];exact hf
   ·have hjl:(j:Int)<(len:Int)-1:=by omega
    obtain⟨c,hc⟩:∃c,c=9-s.size:=⟨_,rfl⟩
    have hci:(9:Int)-s.size=(c:Int):=by omega
    have hrp:=λW=>Tryz.strings_Repeat ⟨#[48]⟩ c W (by omega) (by show 1*c<=_;omega)
    rw[show(⟨#[48]⟩:ByteArray).data.toList=[48] from rfl,<-hci] at hrp
    obtain⟨z,hz⟩:∃z:ByteArray,z=⟨(repeatL [48] c).toArray⟩:=⟨_,rfl⟩
    rw[<-hz] at hrp
    have HRP:=hid hrp;clear hrp
    have hwz:=λbs W h1 h2 h3=>Tryz.WriteString_k w.heap.size (w.heap.size+1) (byteCells bs) z W h1 h2 h3
    simp only[strCells_eq,<-byteCells_append] at hwz
    rw[show z.data.toList=List.replicate c 48 by rw[hz];exact zhy c] at hwz
    have HWZ:=hid hwz;clear hwz
    have hzs:z.size=c:=by rw[hz];show(repeatL [48] c).toArray.size=_;rw[zhy];simp
    have HZS:=hid hzs;clear hzs hz
    have HC:=hid hc;have HCI:=hid hci
    have hc9:c<=9:=by omega
    clear hc hci
    gi_wp2_with (refine⟨trivial,?_⟩;gi_at_call 157;refine(CallsIn.inRound lp (callsIn_wide.2 (HRP.out W1))).mono ?_)
    rintro e W2 ⟨rfl,hb2⟩
    have hI2:=hI1.grow hb2
    have kW2:=kW1.trans ((za0 hb2).from W5.heap.size)
    clear hb2 c1 kW1 hI1 hI
    gi_wp2_with (refine⟨trivial,?_⟩;gi_at_call 156;refine(CallsIn.inRound lp (callsIn_wide.2 (HWZ.out _ W2 hI2.bd (by rw[byteCells_length,HZS.out];omega) hI2.below.size))).mono ?_)
    rintro e W3 ⟨rfl,hbd,hb3,hk3⟩
    have hI3:=hI2.more (.inr hbd) hb3 hk3
    have kW3:=kW2.trans (zcy hI2.bd hb3 hk3 W5.heap.size)
    clear hbd hb3 hk3 kW2 hI2
    gi_wp2_with (refine⟨trivial,?_⟩;gi_at_call 156;refine(CallsIn.inRound lp (callsIn_wide.2 (HWS.out _ W3 hI3.bd (by rw[byteCells_length,zU,List.length_replicate];omega) hI3.below.size))).mono ?_)
    rintro e W4 ⟨rfl,hbd,hb4,hk4⟩
    have hI4:=hI3.more (.inr hbd) hb4 hk4
    have kW4:=kW3.trans (zcy hI3.bd hb4 hk4 W5.heap.size)
    clear hbd hb4 hk4 kW3 hI3
    have HI4:=hid hI4;clear hI4
    have KW4:=hid kW4;clear kW4
    have HK0:=hid hk0;clear hk0
    have HJ:=hid hj;clear hj
    gi_wp2
    refine⟨KW4.out,?_⟩
    have hf:=HI4.out
    have e:=znh false (n:=n) (k:=k) (by rw[<-HL.out];exact hk) HK0.out
    rw[HC.out,HSZ.out,HY.out,HJ.out,HL.out,e,<-HL.out] at hf
    exact hf
  case donefalse=>
   rintro D W hD hI hK
   have hout:=zo2 false h0
   have hz:=HZ.out
   simp at hz
   simp at hout
   rw[<-HL.out,<-hz] at hout
   clear hz
   have hd:=hI.bd
   have hst:=Tryz.String_k w.heap.size (w.heap.size+1) (zdt false (zaa B9 n) len) W hd hI.below.size
   rw[hout] at hst
   have HST:=hid hst;clear hst hout
   have HI:=hid hI
   have HK:=hid hK;clear hK
   clear hd hI
   gi_wp2_with (refine⟨trivial,?_⟩;gi_at_call 158;refine(callsIn_wide.2 HST.out).mono ?_)
   rintro e W9 ⟨rfl,hx9,hb9,hk9⟩
   clear hx9
   have hK9:=(zcy HI.out.bd hb9 hk9 0).same D _ (Nat.zero_le _) HK.out rfl
   have HK9:=hid hK9;clear hK9
   have HB9:=hid (HI.out.below.trans hb9);clear hb9 hk9
   gi_wp2
   refine⟨by simp,.inl ⟨_,_,rfl,run_takeDeferred HK9.out,?_⟩⟩
   exact⟨_,by simp[results,Tryz.f115,go_sem],rfl,zby HB9.out (by have:=Below.size HI.out.below;omega) HK9.out⟩
 ·have hwb:=λW h1 h2=>Tryz.WriteByte_k w.heap.size (w.heap.size+1) (byteCells []) 45 W h1 (by simp[byteCells]) h2
  have HWB:=hid hwb;clear hwb
  have h1:=zl5 (w.alloc (.cells #[.bool true,.slice pa len ca] 125)) w.heap.size (by simp)
  simp only[zH] at h1
  gi_wp2_with (refine⟨trivial,?_⟩;gi_at_call 154;refine(callsIn_wide.2 (HWB.out _ h1 (by simp only[zH];omega))).mono ?_)
  rintro e w1 rfl hbd hb1 hk1
  have hS:w1.heap[w.heap.size]? =some (.cells #[.bool true,.slice pa len ca] 125 (0,0)):=zms h1 hk1 ((Below.heap_alloc _ _ _ (by simp)).trans (zG w _)) (by decide) (by decide)
  have hB1:qL w w1:=(((zM _ w).alloc (zN _) _).alloc (by simp) _).trans hb1
  have cs1:w1.cell? ⟨w.heap.size,1,none⟩=some (.slice pa len ca):=by simp[World.cell?,hS]
  clear h1 hk1 hb1
  gi_wp2_with (refine⟨trivial,?_⟩;gi_at_call 155;refine(callsIn_wide.2 (zhu _ _ _ _ _ rfl)).mono ?_;rintro e w' ⟨rfl,rfl⟩)
  have hI:WriI w w.heap.size (w.heap.size+1) w1.heap.size true (.slice pa len ca) (zdt true (zaa B9 n) 0) (w1.alloc (.cells #[.slice pa len ca] 123)):=
   ⟨(Below.heap_alloc _ _ _ (Array.getElem?_eq_some_iff.1 hS).1).trans hS,by rw[zg9];exact IsBuilderF.alloc (.inr hbd) _,Boxed.new w1 _ _,hB1.alloc hB1.size _⟩
  clear hS cs1 hB1 hbd
  generalize w1.alloc (.cells #[.slice pa len ca] 123)=W5 at*
  generalize w1.heap.size=Bs at*
  have hW5:=hI.below.size
  refine zkt Bs len ca pa (λi x=>x=(((zaa B9 n)[i]?.getD 0:Nat):Int)) (RdSl Bs (.slice pa len ca) (zaa B9 n)) (by omega)
   (λW h=>by have:=RdSl.read (l:=zaa B9 n) (cap:=ca) (p:=pa) (by rw[<-HL.out];exact h);rw[<-HL.out] at this;exact this) rfl rfl (B:=w.heap.size) hI.below.size
   (λk W=>WriI w w.heap.size (w.heap.size+1) Bs true (.slice pa len ca) (zdt true (zaa B9 n) k) W) (λ_ _ _=>False)
   (λk W W' h hk hb=>h.kept hk hb) (λ_ _ _ _ h _ _=>h) (λk W h=>⟨h.bb.cell,HA.out.below h.below⟩) hI ?_ ?assigntrue ?bodytrue ?donetrue ?stoptrue
  case stoptrue=>exact λ_ _ _ _ _ h _=>h.elim
  case assigntrue=>
   intro lp j x W K hK
   gi_wp2
   exact hK
  case bodytrue=>
   rintro lp k j x W hlp-hI hk hj hx
   have hxs:=zaj (zak (B:=B9) (by decide) n) (by decide) j
   obtain⟨y,hy⟩:∃y,y=(zaa B9 n)[j]?.getD 0:=⟨_,rfl⟩
   rw[<-hy] at hx hxs
   subst hx
   have hy9:y<1000000000:=hxs
   have HY:=hid hy;clear hy hxs
   have hsi:(zD y).length<=9:=(zaf y 9 (by omega)).2 hy9
   have hsi1:1<=(zD y).length:=by have:=zbn (y:Int);unfold digs at this;simpa using this
   have hit:=λW hW=>zb3 (y:Int) (by omega) (by omega) W hW
   rw[Str.zad] at hit
   have HIT:=hid hit;clear hit
   obtain⟨s,hs⟩:∃s:ByteArray,s=⟨(zD y).toArray⟩:=⟨_,rfl⟩
   have hsz:s.size=(zD y).length:=by rw[hs];show(zD y).toArray.size=_;simp
   rw[<-hs] at HIT
   have HS:=hid hs;clear hs
   have hs9:s.size<=9:=by omega
   have hs1:1<=s.size:=by omega
   have HSZ:=hid hsz;clear hsz hsi hsi1
   have hol:=zo3 true n k h0
   rw[<-HL.out] at hol
   have cs:=hI.st
   have c1:W.cell? ⟨w.heap.size,1,none⟩=some (.slice pa len ca):=by simp[World.cell?,cs]
   clear cs
   gi_wp2_with (refine⟨trivial,?_⟩;gi_at_call 64;refine(CallsIn.inRound lp (callsIn_wide.2 (HIT.out W (HW.out.below hI.below)))).mono ?_)
   rintro e W1 ⟨rfl,hb1⟩
   have hI1:=hI.grow hb1
   have kW1:=(za0 hb1).from W5.heap.size
   clear c1 hb1
   have cs:=hI1.st
   have c1:W1.cell? ⟨w.heap.size,1,none⟩=some (.slice pa len ca):=by simp[World.cell?,cs]
   clear cs
   have hws:=λbs W h1 h2 h3=>Tryz.WriteString_k w.heap.size (w.heap.size+1) (byteCells bs) s W h1 h2 h3
   simp only[strCells_eq,<-byteCells_append] at hws
   rw[show s.data.toList=zD y by rw[HS.out]] at hws
   have HWS:=hid hws;clear hws
   by_cases hk0:k=0
   ·have hjl:¬(j:Int)<(len:Int)-1:=by omega
    gi_wp2_with (refine⟨trivial,?_⟩;gi_at_call 156;refine(CallsIn.inRound lp (callsIn_wide.2 (HWS.out _ W1 hI1.bd (by rw[byteCells_length];omega) hI1.below.size))).mono ?_)
    rintro e W2 ⟨rfl,hbd,hb2,hk2⟩
    have hI2:=hI1.more (.inr hbd) hb2 hk2
    have kW2:=kW1.trans (zcy hI1.bd hb2 hk2 W5.heap.size)
    clear hbd hb2 hk2 c1 kW1
    have HI2:=hid hI2;clear hI2
    have KW2:=hid kW2;clear kW2
    have HK0:=hid hk0;clear hk0 hI hI1
    have HJ:=hid hj;clear hj
    gi_wp2
    refine⟨KW2.out,?_⟩
    have hf:=HI2.out
    have e:=zl7 true (l:=zaa B9 n) (by rw[<-HL.out];omega)
    rw[HY.out,HJ.out,HK0.out,HL.out,Nat.sub_zero,e,<-HL.out] at hf
    rw[HK0.out];exact hf
   ·have hjl:(j:Int)<(len:Int)-1:=by omega
    obtain⟨c,hc⟩:∃c,c=9-s.size:=⟨_,rfl⟩
    have hci:(9:Int)-s.size=(c:Int):=by omega
    have hrp:=λW=>Tryz.strings_Repeat ⟨#[48]⟩ c W (by omega) (by show 1*c<=_;omega)
    rw[show(⟨#[48]⟩:ByteArray).data.toList=[48] from rfl,<-hci] at hrp
    obtain⟨z,hz⟩:∃z:ByteArray,z=⟨(repeatL [48] c).toArray⟩:=⟨_,rfl⟩
    rw[<-hz] at hrp
    have HRP:=hid hrp;clear hrp
    have hwz:=λbs W h1 h2 h3=>Tryz.WriteString_k w.heap.size (w.heap.size+1) (byteCells bs) z W h1 h2 h3
    simp only[strCells_eq,<-byteCells_append] at hwz
    rw[show z.data.toList=List.replicate c 48 by rw[hz];exact zhy c] at hwz
    have HWZ:=hid hwz;clear hwz
    have hzs:z.size=c:=by rw[hz];show(repeatL [48] c).toArray.size=_;rw[zhy];simp
    have HZS:=hid hzs;clear hzs hz
    have HC:=hid hc;have HCI:=hid hci
    have hc9:c<=9:=by omega
    clear hc hci
    gi_wp2_with (refine⟨trivial,?_⟩;gi_at_call 157;refine(CallsIn.inRound lp (callsIn_wide.2 (HRP.out W1))).mono ?_)
    rintro e W2 ⟨rfl,hb2⟩
    have hI2:=hI1.grow hb2
    have kW2:=kW1.trans ((za0 hb2).from W5.heap.size)
    clear hb2 c1 kW1 hI1 hI
    gi_wp2_with (refine⟨trivial,?_⟩;gi_at_call 156;refine(CallsIn.inRound lp (callsIn_wide.2 (HWZ.out _ W2 hI2.bd (by rw[byteCells_length,HZS.out];omega) hI2.below.size))).mono ?_)
    rintro e W3 ⟨rfl,hbd,hb3,hk3⟩
    have hI3:=hI2.more (.inr hbd) hb3 hk3
    have kW3:=kW2.trans (zcy hI2.bd hb3 hk3 W5.heap.size)
    clear hbd hb3 hk3 kW2 hI2
    gi_wp2_with (refine⟨trivial,?_⟩;gi_at_call 156;refine(CallsIn.inRound lp (callsIn_wide.2 (HWS.out _ W3 hI3.bd (by rw[byteCells_length,zU,List.length_replicate];omega) hI3.below.size))).mono ?_)
    rintro e W4 ⟨rfl,hbd,hb4,hk4⟩
    have hI4:=hI3.more (.inr hbd) hb4 hk4
    have kW4:=kW3.trans (zcy hI3.bd hb4 hk4 W5.heap.size)
    clear hbd hb4 hk4 kW3 hI3
    have HI4:=hid hI4;clear hI4
    have KW4:=hid kW4;clear kW4
    have HK0:=hid hk0;clear hk0
    have HJ:=hid hj;clear hj
    gi_wp2
    refine⟨KW4.out,?_⟩
    have hf:=HI4.out
    have e:=znh true (n:=n) (k:=k) (by rw[<-HL.out];exact hk) HK0.out
    rw[HC.out,HSZ.out,HY.out,HJ.out,HL.out,e,<-HL.out] at hf
    exact hf
  case donetrue=>
   rintro D W hD hI hK
   have hout:=zo2 true h0
   have hz:=HZ.out
   simp at hz
   simp at hout
   rw[<-HL.out,<-hz] at hout
   clear hz
   have hd:=hI.bd
   have hst:=Tryz.String_k w.heap.size (w.heap.size+1) (zdt true (zaa B9 n) len) W hd hI.below.size
   rw[hout] at hst
   have HST:=hid hst;clear hst hout
   have HI:=hid hI
   have HK:=hid hK;clear hK
   clear hd hI
   gi_wp2_with (refine⟨trivial,?_⟩;gi_at_call 158;refine(callsIn_wide.2 HST.out).mono ?_)
   rintro e W9 ⟨rfl,hx9,hb9,hk9⟩
   clear hx9
   have hK9:=(zcy HI.out.bd hb9 hk9 0).same D _ (Nat.zero_le _) HK.out rfl
   have HK9:=hid hK9;clear hK9
   have HB9:=hid (HI.out.below.trans hb9);clear hb9 hk9
   gi_wp2
   refine⟨by simp,.inl ⟨_,_,rfl,run_takeDeferred HK9.out,?_⟩⟩
   exact⟨_,by simp[results,Tryz.f115,go_sem],rfl,zby HB9.out (by have:=Below.size HI.out.below;omega) HK9.out⟩
theorem zo4 (m:Bool) (va:Value) (n:Nat) (w:zA) (hw:Wd w) (ha:Sl w va ((zaa B9 n).map I)) (hlen:(zaa B9 n).length<=1000):
 qJ 115 #[.agg #[.bool m,va]] w (St (zE (if m then-(n:Int) else n))):=by
 rcases Nat.eq_zero_or_pos n with rfl|h
 ·rw[zaz] at ha
  refine(zuw m va w ha).mono ?_
  rintro e w' ⟨rfl,h⟩
  exact⟨by cases m<;>simp[zb9],h⟩
 ·exact zwp m va n _ rfl w hw ha h hlen
def sgn (m:Bool) (n:Nat):Int:=if m then-(n:Int) else n
theorem zkw (n:Nat):sgn false n=n:=by simp[sgn]
theorem zy0 (n:Nat):sgn true n= -(n:Int):=by simp[sgn]
theorem zge (m:Bool) (n:Nat):(sgn m n).natAbs=n:=by cases m<;>simp[sgn]
theorem zcs (x:Int):sgn (decide (x<0)) x.natAbs=x:=by
 unfold sgn
 by_cases h:x<0
 ·simp[h];omega
 ·simp[h];omega
theorem ztv (x:Int):sgn (!decide (x<0)) x.natAbs= -x:=by
 unfold sgn
 by_cases h:x<0
 ·simp[h];omega
 ·simp[h];omega
theorem zux {n k:Nat} (hk:0<k) (h:(zD n).length<=9*k):(zaa B9 n).length<=k:=by
 refine zfv (by decide) ?_
 rw[show B9=10^9 from rfl,<-Nat.pow_mul]
 exact(zaf n (9*k) (by omega)).1 h
def resL (z:Int):List UInt8:=if digs z<=300 then zE z else[]
def resE (z:Int):Int:=if digs z<=300 then 0 else 4
theorem zcf {z:Int} (h:digs z<=300):resL z=zE z:=if_pos h
theorem zcg {z:Int} (h:digs z<=300):resE z=0:=if_pos h
theorem zhz {x y:Int} {k:Nat} (hk:0<k) (hx:digs x<=k) (hy:digs y<=k):digs (x+y)<=k+1:=by
 rw[za3 _ _ (by omega),Nat.pow_succ]
 rw[za3 _ _ hk] at hx hy
 have:=Int.natAbs_add_le x y
 omega
theorem zy1 (x:Int):digs (-x)=digs x:=by unfold digs;rw[Int.natAbs_neg]
theorem zq2 {x y:Int} {i j:Nat} (hi:0<i) (hj:0<j) (hx:digs x<=i) (hy:digs y<=j):digs (x*y)<=i+j:=by
 rw[za3 _ _ (by omega),Int.natAbs_mul,Nat.pow_add]
 rw[za3 _ _ hi] at hx
 rw[za3 _ _ hj] at hy
 exact Nat.mul_lt_mul'' hx hy
theorem zb4 {z:Int} {k:Nat} (hk:0<k) (h:digs z<=9*k):(zaa B9 z.natAbs).length<=k:=zux hk h
theorem zwq (m:Bool) (va:Value) (n:Nat) (w:zA) (hw:Wd w) (ha:Sl w va ((zaa B9 n).map I)) (hlen:(zaa B9 n).length<=1000) (h:digs (sgn m n)<=300):
 qJ 66 #[.agg #[.bool m,va]] w (.tuple #[St (zE (sgn m n)),.int .i64 0]):=by
 obtain⟨pa,ca,rfl, -⟩:=id ha
 simp only[zV] at*
 have hwr:=λW h1 h2=>zo4 m (.slice pa (zaa B9 n).length ca) n W h1 h2 hlen
 have htp:=λW=>Tryz.strings_TrimPrefix ⟨(zE (sgn m n)).toArray⟩ ⟨#[45]⟩ W
 rw[show(⟨(zE (sgn m n)).toArray⟩:ByteArray).data.toList=zE (sgn m n) from rfl,show(⟨#[45]⟩:ByteArray).data.toList=[45] from rfl,zbi] at htp
 obtain⟨s,hs⟩:∃s:ByteArray,s=⟨(zD (sgn m n).natAbs).toArray⟩:=⟨_,rfl⟩
 have hsz:s.size=digs (sgn m n):=by rw[hs];show(zD (sgn m n).natAbs).toArray.size=_;simp[digs]
 rw[<-hs] at htp
 change ∀W,_->_->Calls _ _ _ _ (λe w'=>e=.returned (St (zE (sgn m n)))/\_) at hwr
 generalize sgn m n=z at*
 have hsb:¬(300<(s.size:Int)):=by omega
 have hsb2:(s.size:Int)<=300:=by omega
 have HWR:=hid hwr;clear hwr
 have HTP:=hid htp;clear htp
 have HA:=hid ha;clear ha
 have HW:=hid hw;clear hw hs hsz h
 generalize (zaa B9 n).length=len at*
 go_enter Tryz.func66,Tryz.ntmps66
 go_wp2_with fail
 have hb0:qL w (w.alloc (.cells #[.bool m,.slice pa len ca] 125)):=(zM _ w).alloc (zN _) _
 refine(HWR.out _ (HW.out.below hb0) (HA.out.below hb0)).mono ?_
 rintro e w1 ⟨rfl,hb1⟩
 have hB:=hb0.trans (hb1.mono (by simp))
 clear hb0 hb1
 go_wp2_with fail
 refine(HTP.out w1).mono ?_
 rintro e w2 ⟨rfl,rfl⟩
 go_wp2_with fail
 go_ret2
 exact⟨rfl,hB⟩
theorem zsv (m:Bool) (va:Value) (n:Nat) (w:zA) (hw:Wd w) (ha:Sl w va ((zaa B9 n).map I)) (hlen:(zaa B9 n).length<=1000) (h:300<digs (sgn m n)):
 qJ 66 #[.agg #[.bool m,va]] w (.tuple #[St [],.int .i64 4]):=by
 obtain⟨pa,ca,rfl, -⟩:=id ha
 simp only[zV] at*
 have hwr:=λW h1 h2=>zo4 m (.slice pa (zaa B9 n).length ca) n W h1 h2 hlen
 have htp:=λW=>Tryz.strings_TrimPrefix ⟨(zE (sgn m n)).toArray⟩ ⟨#[45]⟩ W
 rw[show(⟨(zE (sgn m n)).toArray⟩:ByteArray).data.toList=zE (sgn m n) from rfl,show(⟨#[45]⟩:ByteArray).data.toList=[45] from rfl,zbi] at htp
 obtain⟨s,hs⟩:∃s:ByteArray,s=⟨(zD (sgn m n).natAbs).toArray⟩:=⟨_,rfl⟩
 have hsz:s.size=digs (sgn m n):=by rw[hs];show(zD (sgn m n).natAbs).toArray.size=_;simp[digs]
 rw[<-hs] at htp
 change ∀W,_->_->Calls _ _ _ _ (λe w'=>e=.returned (St (zE (sgn m n)))/\_) at hwr
 generalize sgn m n=z at*
 have hsb:(300<(s.size:Int)):=by omega
 have HWR:=hid hwr;clear hwr
 have HTP:=hid htp;clear htp
 have HA:=hid ha;clear ha
 have HW:=hid hw;clear hw hs hsz h
 generalize (zaa B9 n).length=len at*
 go_enter Tryz.func66,Tryz.ntmps66
 go_wp2_with fail
 have hb0:qL w (w.alloc (.cells #[.bool m,.slice pa len ca] 125)):=(zM _ w).alloc (zN _) _
 refine(HWR.out _ (HW.out.below hb0) (HA.out.below hb0)).mono ?_
 rintro e w1 ⟨rfl,hb1⟩
 have hB:=hb0.trans (hb1.mono (by simp))
 clear hb0 hb1
 go_wp2_with fail
 refine(HTP.out w1).mono ?_
 rintro e w2 ⟨rfl,rfl⟩
 go_wp2_with fail
 go_ret2
 exact⟨rfl,hB⟩
theorem zez (m:Bool) (va:Value) (n:Nat) (w:zA) (hw:Wd w) (ha:Sl w va ((zaa B9 n).map I)) (hlen:(zaa B9 n).length<=1000):
 qJ 66 #[.agg #[.bool m,va]] w (.tuple #[St (resL (sgn m n)),.int .i64 (resE (sgn m n))]):=by
 unfold resL resE
 by_cases h:digs (sgn m n)<=300
 ·rw[if_pos h,if_pos h];exact zwq m va n w hw ha hlen h
 ·rw[if_neg h,if_neg h];exact zsv m va n w hw ha hlen (by omega)
def zni (w:zA) (z:Int) (e:Ending) (w':zA):Prop:=
 ∃m v n,e=.returned (.agg #[.bool m,v])/\sgn m n=z/\Sl w' v ((zaa B9 n).map I)/\Below w.heap.size w w'
theorem z09 (va vb:Value) (m n:Nat) (w:zA) (ha:Sl w va ((zaa B9 m).map I)) (hb:Sl w vb ((zaa B9 n).map I)) (la:(zaa B9 m).length<=1000) (lb:(zaa B9 n).length<=1000):
 Calls zF 119 #[va,vb,.func (.func 120) #[] #[]] w λe w'=>∃p c k,e=.returned (.slice p k c)/\Sl w' (.slice p k c) ((zaa B9 (m+n)).map I)/\Below w.heap.size w w':=by
 refine(zqs va vb _ _ w ha hb (zak (by decide) m) (zak (by decide) n) la lb).mono ?_
 rintro e w' ⟨v,rfl,hown,hB⟩
 rw[zov (by decide) (zak (by decide) m) (zak (by decide) n),zam (by decide),zam (by decide)] at hown
 have hs:=Sl.of_own hown
 obtain⟨p,c,e, -⟩:=id hs
 subst e
 exact⟨p,c,_,rfl,hs,hB⟩
theorem zq3 (va vb:Value) (m n:Nat) (w:zA) (ha:Sl w va ((zaa B9 m).map I)) (hb:Sl w vb ((zaa B9 n).map I)) (la:(zaa B9 m).length<=1000) (lb:(zaa B9 n).length<=1000) (h:n<=m):
 Calls zF 119 #[va,vb,.func (.func 121) #[] #[]] w λe w'=>∃p c k,e=.returned (.slice p k c)/\Sl w' (.slice p k c) ((zaa B9 (m-n)).map I)/\Below w.heap.size w w':=by
 refine(zpr va vb _ _ w ha hb (zak (by decide) m) (zak (by decide) n) la lb).mono ?_
 rintro e w' ⟨v,rfl,hown,hB⟩
 rw[znb (by decide) (zak (by decide) m) (zak (by decide) n) (by rw[zam (by decide),zam (by decide)];exact h) _ (by omega) (by omega),zam (by decide),zam (by decide)] at hown
 have hs:=Sl.of_own hown
 obtain⟨p,c,e, -⟩:=id hs
 subst e
 exact⟨p,c,_,rfl,hs,hB⟩
theorem zy2 (m:Bool) (vx vy:Value) (nx ny:Nat) (w:zA) (hx:Sl w vx ((zaa B9 nx).map I)) (hy:Sl w vy ((zaa B9 ny).map I)) (lx:(zaa B9 nx).length<=1000) (ly:(zaa B9 ny).length<=1000):
 Calls zF 78 #[.agg #[.bool m,vx],.agg #[.bool m,vy]] w (zni w (sgn m nx+sgn m ny)):=by
 obtain⟨px,cx,rfl, -⟩:=id hx
 obtain⟨py,cy,rfl, -⟩:=id hy
 simp only[zV] at*
 have hpl:=λW h1 h2=>z09 (.slice px (zaa B9 nx).length cx) (.slice py (zaa B9 ny).length cy) nx ny W h1 h2 lx ly
 generalize (zaa B9 nx).length=kx at*
 generalize (zaa B9 ny).length=ky at*
 have HPL:=hid hpl;clear hpl
 have HX:=hid hx;clear hx
 have HY:=hid hy;clear hy
 go_enter Tryz.func78,Tryz.ntmps78
 go_wp2
 obtain⟨W3,hW3⟩:∃W3,W3=((w.alloc (.cells #[.bool m,.slice px kx cx] 125)).alloc (.cells #[.bool m,.slice py ky cy] 125)).alloc (.cells #[.bool false,.slice none 0 0] 125):=⟨_,rfl⟩
 have hB3:qL w W3:=by rw[hW3];exact(((zM _ w).alloc (zN _) _).alloc (by simp) _).alloc (by simp;omega) _
 have b2:W3.heap[w.heap.size]? =some (.cells #[.bool m,.slice px kx cx] 125 (0,0)):=by
  rw[hW3];exact(Below.heap_alloc _ _ _ (by simp only[zH];omega)).trans ((Below.heap_alloc _ _ _ (by simp only[zH];omega)).trans (zG w _))
 have b3:W3.heap[w.heap.size+1]? =some (.cells #[.bool m,.slice py ky cy] 125 (0,0)):=by
  rw[hW3];refine(Below.heap_alloc _ _ _ (by simp only[zH];omega)).trans ?_
  have:=zG (w.alloc (.cells #[.bool m,.slice px kx cx] 125)) (.cells #[.bool m,.slice py ky cy] 125)
  rwa [zH] at this
 have b4:W3.heap[w.heap.size+1+1]? =some (.cells #[.bool false,.slice none 0 0] 125 (0,0)):=by
  rw[hW3]
  have:=zG ((w.alloc (.cells #[.bool m,.slice px kx cx] 125)).alloc (.cells #[.bool m,.slice py ky cy] 125)) (.cells #[.bool false,.slice none 0 0] 125)
  rwa [zH,zH] at this
 rw[<-hW3]
 clear hW3
 have c20:∀W:zA,W.heap[w.heap.size]? =W3.heap[w.heap.size]? ->W.cell? ⟨w.heap.size,0,none⟩=some (.bool m):=λW h=>by simp[World.cell?,h,b2]
 have c21:∀W:zA,W.heap[w.heap.size]? =W3.heap[w.heap.size]? ->W.cell? ⟨w.heap.size,1,none⟩=some (.slice px kx cx):=λW h=>by simp[World.cell?,h,b2]
 have c30:∀W:zA,W.heap[w.heap.size+1]? =W3.heap[w.heap.size+1]? ->W.cell? ⟨w.heap.size+1,0,none⟩=some (.bool m):=λW h=>by simp[World.cell?,h,b3]
 have c31:∀W:zA,W.heap[w.heap.size+1]? =W3.heap[w.heap.size+1]? ->W.cell? ⟨w.heap.size+1,1,none⟩=some (.slice py ky cy):=λW h=>by simp[World.cell?,h,b3]
 have C20:=hid c20;have C21:=hid c21;have C30:=hid c30;have C31:=hid c31
 clear c20 c21 c30 c31
 have L3:w.heap.size+1+1<W3.heap.size:=(Array.getElem?_eq_some_iff.1 b4).1
 have B4:=hid b4;clear b2 b3 b4
 refine zey 6 (λW=>W.cell? ⟨w.heap.size,0,none⟩=some (.bool m)/\W.cell? ⟨w.heap.size,1,none⟩=some (.slice px kx cx)/\W.cell? ⟨w.heap.size+1,0,none⟩=some (.bool m)/\W.cell? ⟨w.heap.size+1,1,none⟩=some (.slice py ky cy))
  (by kernel_rfl) (by kernel_rfl) ⟨C20.out _ rfl,C21.out _ rfl,C30.out _ rfl,C31.out _ rfl⟩ ?_
 simp only[List.take_succ_cons,List.take_zero,List.drop_succ_cons,List.drop_zero]
 repeat(apply zer (by rfl);(focus(rintro W ⟨h1,h2,h3,h4⟩;go_simp;try with_reducible rfl));try simp only[zzQ])
 refine ze6 ?_
 refine zbt (by rfl) λK hK=>?_
 go_simp
 refine(HPL.out W3.drew (HX.out.below (hB3.drew)) (HY.out.below hB3.drew)).mono ?_
 rintro e W4 ⟨p,c,k,rfl,hs,hB4⟩
 have e2:W4.heap[w.heap.size]? =W3.heap[w.heap.size]? :=hB4.block _ (by show _<W3.heap.size;omega)
 have e3:W4.heap[w.heap.size+1]? =W3.heap[w.heap.size+1]? :=hB4.block _ (by show _<W3.heap.size;omega)
 have b4:W4.heap[w.heap.size+1+1]? =some (.cells #[.bool false,.slice none 0 0] 125 (0,0)):=(hB4.block _ (by show _<W3.heap.size;omega)).trans B4.out
 have hB5:qL w W4:=hB3.drew.trans (hB4.mono (by show _<=W3.heap.size;omega))
 have hS:=And.intro (C20.out W4 e2) (And.intro (C21.out W4 e2) (And.intro (C30.out W4 e3) (C31.out W4 e3)))
 have E2:=hid e2;have E3:=hid e3;clear e2 e3 hB4
 have HS:=hid hs;clear hs
 refine hK _ _ hS ?_
 clear hK K
 try simp only[zzQ]
 refine zbt (by rfl) λK hK=>?_
 go_simp
 refine hK _ _ hS ?_
 clear hK K
 try simp only[zzQ]
 have d0:W4.cell? ⟨w.heap.size+1+1,0,none⟩=some (.bool false):=by simp[World.cell?,b4]
 have d1:W4.cell? ⟨w.heap.size+1+1,1,none⟩=some (.slice none 0 0):=by simp[World.cell?,b4]
 have f0:W4.frozen? ⟨w.heap.size+1+1,0,none⟩=false:=by simp[World.frozen?,b4]
 have f1:W4.frozen? ⟨w.heap.size+1+1,1,none⟩=false:=by simp[World.frozen?,b4]
 refine zbt (by rfl) λK hK=>?_
 go_simp
 have g2:((W4.setCell ⟨w.heap.size+1+1,0,none⟩ (.bool m)).setCell ⟨w.heap.size+1+1,1,none⟩ (.slice p k c)).heap[w.heap.size]? =W3.heap[w.heap.size]? :=
  (yE _ _ _ _ (by show w.heap.size≠w.heap.size+1+1;omega)).trans ((yE _ _ _ _ (by show w.heap.size≠w.heap.size+1+1;omega)).trans E2.out)
 have g3:((W4.setCell ⟨w.heap.size+1+1,0,none⟩ (.bool m)).setCell ⟨w.heap.size+1+1,1,none⟩ (.slice p k c)).heap[w.heap.size+1]? =W3.heap[w.heap.size+1]? :=
  (yE _ _ _ _ (by show w.heap.size+1≠w.heap.size+1+1;omega)).trans ((yE _ _ _ _ (by show w.heap.size+1≠w.heap.size+1+1;omega)).trans E3.out)
 refine hK _ _ ⟨C20.out _ g2,C21.out _ g2,C30.out _ g3,C31.out _ g3⟩ ?_
 clear hK K g2 g3
 try simp only[zzQ]
 refine ze7 ⟨rfl,?_⟩
 have hs0:=HS.out.set d0 (λx=>by simp[I]) (.bool m)
 have e1:=(World.cell?_setCell_other _ _ _ (.bool m) (show(⟨w.heap.size+1+1,0,none⟩:Addr)≠⟨w.heap.size+1+1,1,none⟩ by simp)).trans d1
 have hs1:=hs0.set e1 (λx=>by simp[I]) (.slice p k c)
 have e0:=(World.cell?_setCell_other _ _ _ (.slice p k c) (show(⟨w.heap.size+1+1,1,none⟩:Addr)≠⟨w.heap.size+1+1,0,none⟩ by simp)).trans (za9 (u:=.bool m) d0)
 have e2:=za9 (u:=.slice p k c) e1
 have hB6:=(hB5.setCell (p:=⟨w.heap.size+1+1,0,none⟩) (by show w.heap.size<=w.heap.size+1+1;omega) (.bool m)).setCell (p:=⟨w.heap.size+1+1,1,none⟩) (by show w.heap.size<=w.heap.size+1+1;omega) (.slice p k c)
 clear hs0 e1 d0 d1 f0 f1 b4 hS hB5
 have HS1:=hid hs1;clear hs1
 go_wp2
 exact bodyPost_ret (v:=.agg #[.bool m,.slice p k c]) (by simp[results,Tryz.results78,go_sem,e0,e2]) rfl ⟨m,_,_,rfl,by cases m<;>simp[sgn]<;>omega,HS1.out,hB6⟩
theorem z1a (m:Bool) (vx vy:Value) (nx ny:Nat) (w:zA) (hx:Sl w vx ((zaa B9 nx).map I)) (hy:Sl w vy ((zaa B9 ny).map I)) (lx:(zaa B9 nx).length<=1000) (ly:(zaa B9 ny).length<=1000) (hle:ny<=nx):
 Calls zF 78 #[.agg #[.bool m,vx],.agg #[.bool !m,vy]] w (zni w (sgn m nx+sgn (!m) ny)):=by
 obtain⟨px,cx,rfl, -⟩:=id hx
 obtain⟨py,cy,rfl, -⟩:=id hy
 simp only[zV] at*
 have hcm:=λW h1 h2=>zi9 (.slice px (zaa B9 nx).length cx) (.slice py (zaa B9 ny).length cy) nx ny W h1 h2 lx ly
 have hmm:(m==!m)=false:=by cases m<;>rfl
 have hpl:=λW h1 h2=>zq3 (.slice px (zaa B9 nx).length cx) (.slice py (zaa B9 ny).length cy) nx ny W h1 h2 lx ly hle
 generalize (zaa B9 nx).length=kx at*
 generalize (zaa B9 ny).length=ky at*
 have HPL:=hid hpl;clear hpl
 have HC:=hid hcm;clear hcm
 have HLE:=hid hle;clear hle
 have HX:=hid hx;clear hx
 have HY:=hid hy;clear hy
 go_enter Tryz.func78,Tryz.ntmps78
 go_wp2_with fail
 obtain⟨W3,hW3⟩:∃W3,W3=((w.alloc (.cells #[.bool m,.slice px kx cx] 125)).alloc (.cells #[.bool !m,.slice py ky cy] 125)).alloc (.cells #[.bool false,.slice none 0 0] 125):=⟨_,rfl⟩
 have hB3:qL w W3:=by rw[hW3];exact(((zM _ w).alloc (zN _) _).alloc (by simp) _).alloc (by simp;omega) _
 have b2:W3.heap[w.heap.size]? =some (.cells #[.bool m,.slice px kx cx] 125 (0,0)):=by
  rw[hW3];exact(Below.heap_alloc _ _ _ (by simp only[zH];omega)).trans ((Below.heap_alloc _ _ _ (by simp only[zH];omega)).trans (zG w _))
 have b3:W3.heap[w.heap.size+1]? =some (.cells #[.bool !m,.slice py ky cy] 125 (0,0)):=by
  rw[hW3];refine(Below.heap_alloc _ _ _ (by simp only[zH];omega)).trans ?_
  have:=zG (w.alloc (.cells #[.bool m,.slice px kx cx] 125)) (.cells #[.bool !m,.slice py ky cy] 125)
  rwa [zH] at this
 have b4:W3.heap[w.heap.size+1+1]? =some (.cells #[.bool false,.slice none 0 0] 125 (0,0)):=by
  rw[hW3]
  have:=zG ((w.alloc (.cells #[.bool m,.slice px kx cx] 125)).alloc (.cells #[.bool !m,.slice py ky cy] 125)) (.cells #[.bool false,.slice none 0 0] 125)
  rwa [zH,zH] at this
 rw[<-hW3]
 clear hW3
 refine(HC.out W3 (HX.out.below hB3) (HY.out.below hB3)).mono ?_
 rintro e W5 ⟨cc,rfl,⟨hc1,hc2⟩,hBc⟩
 have hge:0<=cc:=by have:=HLE.out;omega
 clear hc1 hc2
 replace b2:=(hBc.block _ (Array.getElem?_eq_some_iff.1 b2).1).trans b2
 replace b3:=(hBc.block _ (Array.getElem?_eq_some_iff.1 b3).1).trans b3
 replace b4:=(hBc.block _ (Array.getElem?_eq_some_iff.1 b4).1).trans b4
 replace hB3:qL w W5:=hB3.trans (hBc.mono hB3.size)
 clear hBc
 clear W3
 obtain⟨W3,rfl⟩:∃W3,W3=W5:=⟨_,rfl⟩
 go_wp2
 have c20:∀W:zA,W.heap[w.heap.size]? =W3.heap[w.heap.size]? ->W.cell? ⟨w.heap.size,0,none⟩=some (.bool m):=λW h=>by simp[World.cell?,h,b2]
 have c21:∀W:zA,W.heap[w.heap.size]? =W3.heap[w.heap.size]? ->W.cell? ⟨w.heap.size,1,none⟩=some (.slice px kx cx):=λW h=>by simp[World.cell?,h,b2]
 have c30:∀W:zA,W.heap[w.heap.size+1]? =W3.heap[w.heap.size+1]? ->W.cell? ⟨w.heap.size+1,0,none⟩=some (.bool !m):=λW h=>by simp[World.cell?,h,b3]
 have c31:∀W:zA,W.heap[w.heap.size+1]? =W3.heap[w.heap.size+1]? ->W.cell? ⟨w.heap.size+1,1,none⟩=some (.slice py ky cy):=λW h=>by simp[World.cell?,h,b3]
 have C20:=hid c20;have C21:=hid c21;have C30:=hid c30;have C31:=hid c31
 clear c20 c21 c30 c31
 have L3:w.heap.size+1+1<W3.heap.size:=(Array.getElem?_eq_some_iff.1 b4).1
 have B4:=hid b4;clear b2 b3 b4
 refine zey 6 (λW=>W.cell? ⟨w.heap.size,0,none⟩=some (.bool m)/\W.cell? ⟨w.heap.size,1,none⟩=some (.slice px kx cx)/\W.cell? ⟨w.heap.size+1,0,none⟩=some (.bool !m)/\W.cell? ⟨w.heap.size+1,1,none⟩=some (.slice py ky cy))
  (by kernel_rfl) (by kernel_rfl) ⟨C20.out _ rfl,C21.out _ rfl,C30.out _ rfl,C31.out _ rfl⟩ ?_
 simp only[List.take_succ_cons,List.take_zero,List.drop_succ_cons,List.drop_zero]
 repeat(apply zer (by rfl);(focus(rintro W ⟨h1,h2,h3,h4⟩;go_simp;try with_reducible rfl));try simp only[zzQ])
 refine ze6 ?_
 refine zbt (by rfl) λK hK=>?_
 go_simp
 refine(HPL.out W3.drew (HX.out.below (hB3.drew)) (HY.out.below hB3.drew)).mono ?_
 rintro e W4 ⟨p,c,k,rfl,hs,hB4⟩
 have e2:W4.heap[w.heap.size]? =W3.heap[w.heap.size]? :=hB4.block _ (by show _<W3.heap.size;omega)
 have e3:W4.heap[w.heap.size+1]? =W3.heap[w.heap.size+1]? :=hB4.block _ (by show _<W3.heap.size;omega)
 have b4:W4.heap[w.heap.size+1+1]? =some (.cells #[.bool false,.slice none 0 0] 125 (0,0)):=(hB4.block _ (by show _<W3.heap.size;omega)).trans B4.out
 have hB5:qL w W4:=hB3.drew.trans (hB4.mono (by show _<=W3.heap.size;omega))
 have hS:=And.intro (C20.out W4 e2) (And.intro (C21.out W4 e2) (And.intro (C30.out W4 e3) (C31.out W4 e3)))
 have E2:=hid e2;have E3:=hid e3;clear e2 e3 hB4
 have HS:=hid hs;clear hs
 refine hK _ _ hS ?_
 clear hK K
 try simp only[zzQ]
 refine zbt (by rfl) λK hK=>?_
 go_simp
 refine hK _ _ hS ?_
 clear hK K
 try simp only[zzQ]
 have d0:W4.cell? ⟨w.heap.size+1+1,0,none⟩=some (.bool false):=by simp[World.cell?,b4]
 have d1:W4.cell? ⟨w.heap.size+1+1,1,none⟩=some (.slice none 0 0):=by simp[World.cell?,b4]
 have f0:W4.frozen? ⟨w.heap.size+1+1,0,none⟩=false:=by simp[World.frozen?,b4]
 have f1:W4.frozen? ⟨w.heap.size+1+1,1,none⟩=false:=by simp[World.frozen?,b4]
 refine zbt (by rfl) λK hK=>?_
 go_simp
 have g2:((W4.setCell ⟨w.heap.size+1+1,0,none⟩ (.bool m)).setCell ⟨w.heap.size+1+1,1,none⟩ (.slice p k c)).heap[w.heap.size]? =W3.heap[w.heap.size]? :=
  (yE _ _ _ _ (by show w.heap.size≠w.heap.size+1+1;omega)).trans ((yE _ _ _ _ (by show w.heap.size≠w.heap.size+1+1;omega)).trans E2.out)
 have g3:((W4.setCell ⟨w.heap.size+1+1,0,none⟩ (.bool m)).setCell ⟨w.heap.size+1+1,1,none⟩ (.slice p k c)).heap[w.heap.size+1]? =W3.heap[w.heap.size+1]? :=
  (yE _ _ _ _ (by show w.heap.size+1≠w.heap.size+1+1;omega)).trans ((yE _ _ _ _ (by show w.heap.size+1≠w.heap.size+1+1;omega)).trans E3.out)
 refine hK _ _ ⟨C20.out _ g2,C21.out _ g2,C30.out _ g3,C31.out _ g3⟩ ?_
 clear hK K g2 g3
 try simp only[zzQ]
 refine ze7 ⟨rfl,?_⟩
 have hs0:=HS.out.set d0 (λx=>by simp[I]) (.bool m)
 have e1:=(World.cell?_setCell_other _ _ _ (.bool m) (show(⟨w.heap.size+1+1,0,none⟩:Addr)≠⟨w.heap.size+1+1,1,none⟩ by simp)).trans d1
 have hs1:=hs0.set e1 (λx=>by simp[I]) (.slice p k c)
 have e0:=(World.cell?_setCell_other _ _ _ (.slice p k c) (show(⟨w.heap.size+1+1,1,none⟩:Addr)≠⟨w.heap.size+1+1,0,none⟩ by simp)).trans (za9 (u:=.bool m) d0)
 have e2:=za9 (u:=.slice p k c) e1
 have hB6:=(hB5.setCell (p:=⟨w.heap.size+1+1,0,none⟩) (by show w.heap.size<=w.heap.size+1+1;omega) (.bool m)).setCell (p:=⟨w.heap.size+1+1,1,none⟩) (by show w.heap.size<=w.heap.size+1+1;omega) (.slice p k c)
 clear hs0 e1 d0 d1 f0 f1 b4 hS hB5
 have HS1:=hid hs1;clear hs1
 go_wp2
 exact bodyPost_ret (v:=.agg #[.bool m,.slice p k c]) (by simp[results,Tryz.results78,go_sem,e0,e2]) rfl ⟨m,_,_,rfl,by have:=HLE.out;cases m<;>simp[sgn]<;>omega,HS1.out,hB6⟩
theorem zy3 (m:Bool) (vx vy:Value) (nx ny:Nat) (w:zA) (hx:Sl w vx ((zaa B9 nx).map I)) (hy:Sl w vy ((zaa B9 ny).map I)) (lx:(zaa B9 nx).length<=1000) (ly:(zaa B9 ny).length<=1000) (hle:nx<ny):
 Calls zF 78 #[.agg #[.bool m,vx],.agg #[.bool !m,vy]] w (zni w (sgn m nx+sgn (!m) ny)):=by
 obtain⟨px,cx,rfl, -⟩:=id hx
 obtain⟨py,cy,rfl, -⟩:=id hy
 simp only[zV] at*
 have hcm:=λW h1 h2=>zi9 (.slice px (zaa B9 nx).length cx) (.slice py (zaa B9 ny).length cy) nx ny W h1 h2 lx ly
 have hmm:(m==!m)=false:=by cases m<;>rfl
 have hpl:=λW h1 h2=>zq3 (.slice py (zaa B9 ny).length cy) (.slice px (zaa B9 nx).length cx) ny nx W h1 h2 ly lx (by omega)
 generalize (zaa B9 nx).length=kx at*
 generalize (zaa B9 ny).length=ky at*
 have HPL:=hid hpl;clear hpl
 have HC:=hid hcm;clear hcm
 have HLE:=hid hle;clear hle
 have HX:=hid hx;clear hx
 have HY:=hid hy;clear hy
 go_enter Tryz.func78,Tryz.ntmps78
 go_wp2_with fail
 obtain⟨W3,hW3⟩:∃W3,W3=((w.alloc (.cells #[.bool m,.slice px kx cx] 125)).alloc (.cells #[.bool !m,.slice py ky cy] 125)).alloc (.cells #[.bool false,.slice none 0 0] 125):=⟨_,rfl⟩
 have hB3:qL w W3:=by rw[hW3];exact(((zM _ w).alloc (zN _) _).alloc (by simp) _).alloc (by simp;omega) _
 have b2:W3.heap[w.heap.size]? =some (.cells #[.bool m,.slice px kx cx] 125 (0,0)):=by
  rw[hW3];exact(Below.heap_alloc _ _ _ (by simp only[zH];omega)).trans ((Below.heap_alloc _ _ _ (by simp only[zH];omega)).trans (zG w _))
 have b3:W3.heap[w.heap.size+1]? =some (.cells #[.bool !m,.slice py ky cy] 125 (0,0)):=by
  rw[hW3];refine(Below.heap_alloc _ _ _ (by simp only[zH];omega)).trans ?_
  have:=zG (w.alloc (.cells #[.bool m,.slice px kx cx] 125)) (.cells #[.bool !m,.slice py ky cy] 125)
  rwa [zH] at this
 have b4:W3.heap[w.heap.size+1+1]? =some (.cells #[.bool false,.slice none 0 0] 125 (0,0)):=by
  rw[hW3]
  have:=zG ((w.alloc (.cells #[.bool m,.slice px kx cx] 125)).alloc (.cells #[.bool !m,.slice py ky cy] 125)) (.cells #[.bool false,.slice none 0 0] 125)
  rwa [zH,zH] at this
 rw[<-hW3]
 clear hW3
 refine(HC.out W3 (HX.out.below hB3) (HY.out.below hB3)).mono ?_
 rintro e W5 ⟨cc,rfl,⟨hc1,hc2⟩,hBc⟩
 have hge:¬0<=cc:=by have:=HLE.out;omega
 clear hc1 hc2
 replace b2:=(hBc.block _ (Array.getElem?_eq_some_iff.1 b2).1).trans b2
 replace b3:=(hBc.block _ (Array.getElem?_eq_some_iff.1 b3).1).trans b3
 replace b4:=(hBc.block _ (Array.getElem?_eq_some_iff.1 b4).1).trans b4
 replace hB3:qL w W5:=hB3.trans (hBc.mono hB3.size)
 clear hBc
 clear W3
 obtain⟨W3,rfl⟩:∃W3,W3=W5:=⟨_,rfl⟩
 go_wp2
 have c20:∀W:zA,W.heap[w.heap.size]? =W3.heap[w.heap.size]? ->W.cell? ⟨w.heap.size,0,none⟩=some (.bool m):=λW h=>by simp[World.cell?,h,b2]
 have c21:∀W:zA,W.heap[w.heap.size]? =W3.heap[w.heap.size]? ->W.cell? ⟨w.heap.size,1,none⟩=some (.slice px kx cx):=λW h=>by simp[World.cell?,h,b2]
 have c30:∀W:zA,W.heap[w.heap.size+1]? =W3.heap[w.heap.size+1]? ->W.cell? ⟨w.heap.size+1,0,none⟩=some (.bool !m):=λW h=>by simp[World.cell?,h,b3]
 have c31:∀W:zA,W.heap[w.heap.size+1]? =W3.heap[w.heap.size+1]? ->W.cell? ⟨w.heap.size+1,1,none⟩=some (.slice py ky cy):=λW h=>by simp[World.cell?,h,b3]
 have C20:=hid c20;have C21:=hid c21;have C30:=hid c30;have C31:=hid c31
 clear c20 c21 c30 c31
 have L3:w.heap.size+1+1<W3.heap.size:=(Array.getElem?_eq_some_iff.1 b4).1
 have B4:=hid b4;clear b2 b3 b4
 refine zey 6 (λW=>W.cell? ⟨w.heap.size,0,none⟩=some (.bool m)/\W.cell? ⟨w.heap.size,1,none⟩=some (.slice px kx cx)/\W.cell? ⟨w.heap.size+1,0,none⟩=some (.bool !m)/\W.cell? ⟨w.heap.size+1,1,none⟩=some (.slice py ky cy))
  (by kernel_rfl) (by kernel_rfl) ⟨C20.out _ rfl,C21.out _ rfl,C30.out _ rfl,C31.out _ rfl⟩ ?_
 simp only[List.take_succ_cons,List.take_zero,List.drop_succ_cons,List.drop_zero]
 repeat(apply zer (by rfl);(focus(rintro W ⟨h1,h2,h3,h4⟩;go_simp;try with_reducible rfl));try simp only[zzQ])
 refine ze6 ?_
 refine zbt (by rfl) λK hK=>?_
 go_simp
 refine(HPL.out W3.drew (HY.out.below (hB3.drew)) (HX.out.below hB3.drew)).mono ?_
 rintro e W4 ⟨p,c,k,rfl,hs,hB4⟩
 have e2:W4.heap[w.heap.size]? =W3.heap[w.heap.size]? :=hB4.block _ (by show _<W3.heap.size;omega)
 have e3:W4.heap[w.heap.size+1]? =W3.heap[w.heap.size+1]? :=hB4.block _ (by show _<W3.heap.size;omega)
 have b4:W4.heap[w.heap.size+1+1]? =some (.cells #[.bool false,.slice none 0 0] 125 (0,0)):=(hB4.block _ (by show _<W3.heap.size;omega)).trans B4.out
 have hB5:qL w W4:=hB3.drew.trans (hB4.mono (by show _<=W3.heap.size;omega))
 have hS:=And.intro (C20.out W4 e2) (And.intro (C21.out W4 e2) (And.intro (C30.out W4 e3) (C31.out W4 e3)))
 have E2:=hid e2;have E3:=hid e3;clear e2 e3 hB4
 have HS:=hid hs;clear hs
 refine hK _ _ hS ?_
 clear hK K
 try simp only[zzQ]
 refine zbt (by rfl) λK hK=>?_
 go_simp
 refine hK _ _ hS ?_
 clear hK K
 try simp only[zzQ]
 have d0:W4.cell? ⟨w.heap.size+1+1,0,none⟩=some (.bool false):=by simp[World.cell?,b4]
 have d1:W4.cell? ⟨w.heap.size+1+1,1,none⟩=some (.slice none 0 0):=by simp[World.cell?,b4]
 have f0:W4.frozen? ⟨w.heap.size+1+1,0,none⟩=false:=by simp[World.frozen?,b4]
 have f1:W4.frozen? ⟨w.heap.size+1+1,1,none⟩=false:=by simp[World.frozen?,b4]
 refine zbt (by rfl) λK hK=>?_
 go_simp
 have g2:((W4.setCell ⟨w.heap.size+1+1,0,none⟩ (.bool !m)).setCell ⟨w.heap.size+1+1,1,none⟩ (.slice p k c)).heap[w.heap.size]? =W3.heap[w.heap.size]? :=
  (yE _ _ _ _ (by show w.heap.size≠w.heap.size+1+1;omega)).trans ((yE _ _ _ _ (by show w.heap.size≠w.heap.size+1+1;omega)).trans E2.out)
 have g3:((W4.setCell ⟨w.heap.size+1+1,0,none⟩ (.bool !m)).setCell ⟨w.heap.size+1+1,1,none⟩ (.slice p k c)).heap[w.heap.size+1]? =W3.heap[w.heap.size+1]? :=
  (yE _ _ _ _ (by show w.heap.size+1≠w.heap.size+1+1;omega)).trans ((yE _ _ _ _ (by show w.heap.size+1≠w.heap.size+1+1;omega)).trans E3.out)
 refine hK _ _ ⟨C20.out _ g2,C21.out _ g2,C30.out _ g3,C31.out _ g3⟩ ?_
 clear hK K g2 g3
 try simp only[zzQ]
 refine ze7 ⟨rfl,?_⟩
 have hs0:=HS.out.set d0 (λx=>by simp[I]) (.bool !m)
 have e1:=(World.cell?_setCell_other _ _ _ (.bool !m) (show(⟨w.heap.size+1+1,0,none⟩:Addr)≠⟨w.heap.size+1+1,1,none⟩ by simp)).trans d1
 have hs1:=hs0.set e1 (λx=>by simp[I]) (.slice p k c)
 have e0:=(World.cell?_setCell_other _ _ _ (.slice p k c) (show(⟨w.heap.size+1+1,1,none⟩:Addr)≠⟨w.heap.size+1+1,0,none⟩ by simp)).trans (za9 (u:=.bool !m) d0)
 have e2:=za9 (u:=.slice p k c) e1
 have hB6:=(hB5.setCell (p:=⟨w.heap.size+1+1,0,none⟩) (by show w.heap.size<=w.heap.size+1+1;omega) (.bool !m)).setCell (p:=⟨w.heap.size+1+1,1,none⟩) (by show w.heap.size<=w.heap.size+1+1;omega) (.slice p k c)
 clear hs0 e1 d0 d1 f0 f1 b4 hS hB5
 have HS1:=hid hs1;clear hs1
 go_wp2
 exact bodyPost_ret (v:=.agg #[.bool !m,.slice p k c]) (by simp[results,Tryz.results78,go_sem,e0,e2]) rfl ⟨!m,_,_,rfl,by have:=HLE.out;cases m<;>simp[sgn]<;>omega,HS1.out,hB6⟩
theorem zog (m m':Bool) (vx vy:Value) (nx ny:Nat) (w:zA) (hx:Sl w vx ((zaa B9 nx).map I)) (hy:Sl w vy ((zaa B9 ny).map I)) (lx:(zaa B9 nx).length<=1000) (ly:(zaa B9 ny).length<=1000):
 Calls zF 78 #[.agg #[.bool m,vx],.agg #[.bool m',vy]] w (zni w (sgn m nx+sgn m' ny)):=by
 by_cases h:m'=m
 ·subst h;exact zy2 _ vx vy nx ny w hx hy lx ly
 ·obtain rfl:m'=!m:=by cases m<;>cases m'<;>simp at*
  rcases Nat.lt_or_ge nx ny with h|h
  ·exact zy3 m vx vy nx ny w hx hy lx ly h
  ·exact z1a m vx vy nx ny w hx hy lx ly h
end Go.Proofs.YtccijmidbdapaaaGreatDoor
