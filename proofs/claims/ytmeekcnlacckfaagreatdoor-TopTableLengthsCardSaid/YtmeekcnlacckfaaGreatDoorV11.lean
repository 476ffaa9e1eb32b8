/- slices.SortFunc of up to 12 terms: they are sorted by exchanges. -/
import Derived.Test.YtmeekcnlacckfaaGreatDoorV10
import Derived.LaidByTextLater
set_option maxRecDepth 100000
set_option maxHeartbeats 8000000
open Go renaming World → zA, Calls → zC
open Go.RowKit renaming Below → zB, intOf → zL
open Go.Lib renaming decDigits → zD
open Go.Proofs.Tryz renaming prog → zF
open Go.World renaming alloc_heap_new → zG, size_alloc → zH
open Go.IntWalk renaming i64_in → zI
open Go.Joins renaming cell_of_block → zJ, block_setCell → zK
open Go.RowKit.Below renaming refl → zM
open Nat renaming le_refl → zN, le_trans → zO, zero_le → zR, lt_of_lt_of_le → zS, le_of_lt → zT, pow_le_pow_right → yF, pos_of_ne_zero → yS
open List renaming length_map → zV, getElem?_eq_getElem → yB, append_nil → yH
namespace Go.Proofs.YtmeekcnlacckfaaGreatDoor
section
open Go.RowKit Go.Shelf Lib Str Limb
attribute [local go_sem] Oper.semAt_some
theorem z1y {W:zA} {B g n c:Nat} {t:TypeId} {xs:List Value} (h:W.ownsRow B t 2 (.slice (some ⟨g,0,none⟩) n c) n xs):B<=g:=by
 rcases h.2 with⟨e,_⟩|⟨g',cap,cur,e,hb,hg,_⟩
 ·cases e
 ·cases e;exact hb
theorem zu3 {W:zA} {B g n c:Nat} {P:List (Rat×Nat)} (h:W.ownsRow B 37 2 (.slice (some ⟨g,0,none⟩) n c) n (zbj (P.map strT))) {i:Nat} {t:Rat×Nat} (ht:P[i]? =some t):W.cell? ⟨g,i*2,none⟩=some (St (numS t.1))/\W.cell? ⟨g,i*2+1,none⟩=some (St (zD t.2)):=by
 have hl:=h.1;rw[zn8,zV] at hl;have hi:=(List.getElem?_eq_some_iff.1 ht).1;obtain⟨g',c',e, -,hx⟩:=zye h (by omega);injection e with e1 _ _;injection e1 with e1;cases e1;obtain⟨k0,k1⟩:=zpb _ i _ (show(P.map strT)[i]? =some (strT t) by rw[List.getElem?_map,ht];rfl);exact⟨hx _ _ k0,hx _ _ k1⟩
theorem zz6 {W:zA} {B g n c k:Nat} {P:List (Rat×Nat)} (h:W.ownsRow B 37 2 (.slice (some ⟨g,0,none⟩) n c) n (zbj (P.map strT))) (hn:n=P.length) (hk:k<n) (t:Rat×Nat):
 ((W.setCell ⟨g,k*2,none⟩ (St (numS t.1))).setCell ⟨g,k*2+1,none⟩ (St (zD t.2))).ownsRow B 37 2 (.slice (some ⟨g,0,none⟩) n c) n (zbj ((P.set k t).map strT)):=by
 have:=z6l h (by rw[zV];exact hn) hk (z:=numS t.1) (zr:=zD t.2);rw[List.map_set];exact this
def excY (P:List (Rat×Nat)) (m:Nat) (u t:Rat×Nat) (f:Nat->Bool):List (Rat×Nat):=if f 17=true then swS P m u t else if f 15=true then P.set (m+1) u else P
structure ExcS (w:zA) (B g n cap:Nat) (P:List (Rat×Nat)) (m:Nat) (u t:Rat×Nat) (_:Unit) (f:Nat->Bool) (W:zA):Prop where
 bel:zB B w W
 own:W.ownsRow B 37 2 (.slice (some ⟨g,0,none⟩) n cap) n (zbj ((excY P m u t f).map strT))
theorem ExcS.congr {w W:zA} {B g n cap:Nat} {P:List (Rat×Nat)} {m:Nat} {u t:Rat×Nat} {q:Unit} {f f':Nat->Bool} (h:ExcS w B g n cap P m u t q f W) (e15:f' 15=f 15) (e17:f' 17=f 17):ExcS w B g n cap P m u t q f' W:=
 ⟨h.bel,by have:=h.own;unfold excY at this⊢;rw[e15,e17];exact this⟩
theorem z17 (B g cap n:Nat) (L:List (Rat×Nat)) (hL:L.length=n) (hn:n<=12) (hd:DisR L)
 (CM:Hid (∀t u:Rat×Nat,t∈L->u∈L->∃nn:Int,(decide (nn<0)=decide (t.2<u.2))/\qK 60 #[.agg #[St (numS t.1),St (zD t.2)],.agg #[St (numS u.1),St (zD u.2)]] (.int .i64 nn)))
 (w:zA) (HW:Hid (∀W,zB B w W->Wd W)) (hB:B<=w.heap.size) (HO:Hid (w.ownsRow B 37 2 (.slice (some ⟨g,0,none⟩) n cap) n (zbj (L.map strT)))):
 zC zF 194 #[.slice (some ⟨g,0,none⟩) n cap,.int .i64 0,.int .i64 (n:Int),.func (.func 60) #[] #[]] w λe w'=>(∃u,e=.returned u)/\zB B w w'/\w'.ownsRow B 37 2 (.slice (some ⟨g,0,none⟩) n cap) n (zbj ((srtS L).map strT)):=by
 have D0:=hid (zM B w);have HB0:=hid hB;have S0:=hid (OutS.begin hd);rw[hL] at S0;have HD:=hid hd;clear hd hL hB;go_enter Tryz.func194,Tryz.ntmps194;go_wp21;go_loopw [8] (λi wr=>∃(i0:Nat) (P:List (Rat×Nat)),1<=i0/\i0<=n+1/\i=.int .i64 (i0:Int)/\Hid (OutS L n i0 P)/\Hid (zB B w wr)/\Hid (wr.ownsRow B 37 2 (.slice (some ⟨g,0,none⟩) n cap) n (zbj (P.map strT))))
  (λi _=>n+1-(zL i).toNat)
 case atStart=>exact⟨1,L,by omega,by omega,rfl,S0,D0,HO⟩
 case round=>
  clear D0 S0 HO;obtain⟨i0,P0,h1,h2,rfl,hS,D1,hO⟩:=hrel;by_cases hlt:i0<n
  ·have hw1:IntKind.i64.wrap ((i0:Int)+1)=(i0:Int)+1:=zI _ (by omega)
   have HI:=hid hS.out.enter;clear hS;go_wp21;go_loopw [9] (λj wr=>∃(jn:Nat) (P:List (Rat×Nat)),jn<=i0/\j=.int .i64 (jn:Int)/\Hid (InvS L n i0 jn P)/\Hid (zB B w wr)/\Hid (wr.ownsRow B 37 2 (.slice (some ⟨g,0,none⟩) n cap) n (zbj (P.map strT))))
    (λj _=>(zL j).toNat)
   case atStart=>exact⟨i0,P0,zN _,rfl,HI,D1,hO⟩
   case round=>
    clear HI D1 hO;obtain⟨jn,P,hj,rfl,HI,HB,hO⟩:=hrel;have HGB:=hid (zO HB0.out HB.out.size);by_cases h0:jn=0
    ·subst h0
     have HE:=hid (HI.out.stop (.inl rfl));clear HI;go_wp21
     (refine wp_region_quiet_lit (by kernel_rfl) (by kernel_rfl) (WQ.out ?_);(repeat(first|(apply WQ.read (by rfl);(focus(rintro W ⟨n,rfl⟩;go_simp;try with_reducible rfl));try simp only[zzQ])|(apply WQ.skip (by rfl);try simp only[zzQ])));refine WQ.nil ?_;rintro _ ⟨nq,rfl⟩)
     have HX:=hid (zao HB.out nq);have HO2:=hid (show(wr.drewN nq).ownsRow B 37 2 (.slice (some ⟨g,0,none⟩) n cap) n (zbj (P.map strT)) from zcj (zac (zao (zM wr.heap.size wr) nq)) hO.out);clear HB HGB hO;go_wp21;go_roundw
     case rel=>exact⟨i0+1,P,by omega,by omega,by go_num,HE,HX,HO2⟩
     case measure=>simp[zL];omega
    ·obtain⟨m,hm⟩:∃m,jn=m+1:=⟨jn-1,by omega⟩
     have hPl:=HI.out.len;obtain⟨t,ht⟩:∃t,P[jn]? =some t:=⟨_,yB (by omega)⟩;obtain⟨u,hu⟩:∃u,P[m]? =some u:=⟨_,yB (by omega)⟩;obtain⟨nn,hnn,hcm⟩:=CM.out t u ((HI.out.mem t).1 (List.mem_of_getElem? ht)) ((HI.out.mem u).1 (List.mem_of_getElem? hu));have HC1:=hid (zu3 hO.out ht);have HC0:=hid (zu3 hO.out hu);have hj0:(0:Int)<(jn:Int):=by omega
     have hwm:IntKind.i64.wrap ((jn:Int)-1)=(m:Int):=by rw[zI _ (by omega)];omega
     have hmn:m<n:=by omega
     have hjnn:jn<n:=by omega
     have HPL:=hid hPl;have HHT:=hid ht;have HHU:=hid hu;have HM:=hid hm;have HCM:=hid hcm;have HNN:=hid hnn;clear hPl ht hu hm hcm hnn h0;obtain⟨x1,hx1⟩:∃x1,numS t.1=x1:=⟨_,rfl⟩;obtain⟨y1,hy1⟩:∃y1,zD t.2=y1:=⟨_,rfl⟩;obtain⟨x0,hx0⟩:∃x0,numS u.1=x0:=⟨_,rfl⟩;obtain⟨y0,hy0⟩:∃y0,zD u.2=y0:=⟨_,rfl⟩;rw[hx1,hy1] at HC1 HCM;rw[hx0,hy0] at HC0 HCM;have HVS:=hid (⟨hx1,hy1,hx0,hy0⟩:_/\_/\_/\_);clear hx1 hy1 hx0 hy0;cases hlt2:decide (t.2<u.2)
     ·have hng:decide (nn<0)=false:=by rw[HNN.out,hlt2]
      have hnb:¬nn<0:=of_decide_eq_false hng;have HE:=hid (HI.out.stop (.inr ⟨m,t,u,HM.out,HHU.out,by rw[<-HM.out];exact HHT.out,of_decide_eq_false hlt2⟩));clear HI HNN;go_wp21;refine zbl (λ_ W=>qL wr W) (by kernel_rfl) (by kernel_rfl) (zM _ _).drew ?_;refine qR (.int .i64 (jn:Int)) ?_ (hy:=λf W' hf h=>by go_simp;try omega);refine qR (.int .i64 0) ?_ (hy:=λf W' hf h=>by go_simp;try omega);refine qR (.bool true) ?_ (hy:=λf W' hf h=>by go_simp;try omega);simp only[zzQ];refine qR (.bool true) ?_ (hy:=λf W' hf h=>by go_simp;try omega);refine qR (.func (.func 60) #[] #[]) ?_ (hy:=λf W' hf h=>by go_simp;try omega);refine qR (.slice (some ⟨g,0,none⟩) n cap) ?_ (hy:=λf W' hf h=>by go_simp;try omega);simp only[zzQ];refine qR (.int .i64 (jn:Int)) ?_ (hy:=λf W' hf h=>by go_simp;try omega);refine qR (.pointer (some ⟨g,jn*2,none⟩)) ?_ (hy:=λf W' hf h=>by go_simp;try omega);refine qR (.agg #[St x1,St y1]) ?_ (hy:=λf W' hf h=>by obtain⟨c0,c1⟩:=HC1.out;have d0:=zai h c0;have d1:=zai h c1;go_simp;try omega);simp only[zzQ];refine qR (.slice (some ⟨g,0,none⟩) n cap) ?_ (hy:=λf W' hf h=>by go_simp;try omega);refine qR (.int .i64 (jn:Int)) ?_ (hy:=λf W' hf h=>by go_simp;try omega);refine qR (.int .i64 (m:Int)) ?_ (hy:=λf W' hf h=>by go_simp;try omega);simp only[zzQ];refine qR (.pointer (some ⟨g,m*2,none⟩)) ?_ (hy:=λf W' hf h=>by go_simp;try omega);refine qR (.agg #[St x0,St y0]) ?_ (hy:=λf W' hf h=>by obtain⟨c0,c1⟩:=HC0.out;have d0:=zai h c0;have d1:=zai h c1;go_simp;try omega);simp only[zzQ]
      refine zar (.int .i64 nn) (by rfl) (λf W' hf h C' hC'=>by
       go_simp;refine zzM (HCM.out _ (HW.out _ (HB.out.trans (h.mono HGB.out)))) λw' hb=>?_;exact⟨rfl,hC' _ (h.trans (hb.mono h.size))⟩) ?_
      refine qR (.bool false) ?_ (hy:=λf W' hf h=>by go_simp;try omega);refine qR (.bool false) ?_ (hy:=λf W' hf h=>by go_simp;try omega);simp only[zzQ];refine zck λf X hf h=>?_;have HX:=hid (HB.out.trans (h.mono HGB.out));have HO2:=hid (zcj (zac h) hO.out);clear hf h HB HGB hO HC1 HC0 HCM;go_wp21;go_roundw
      case rel=>exact⟨i0+1,P,by omega,by omega,by go_num,HE,HX,HO2⟩
      case measure=>simp[zL];omega
     ·have hng:decide (nn<0)=true:=by rw[HNN.out,hlt2]
      have hnb:nn<0:=of_decide_eq_true hng;have hsw:=HI.out;rw[HM.out] at hsw;have HE:=hid (hsw.swap (by have:=HM.out;omega) HHU.out (by rw[<-HM.out];exact HHT.out) (of_decide_eq_true hlt2));clear HI HNN hsw;go_wp21;refine zbl (λ_ W=>qL wr W) (by kernel_rfl) (by kernel_rfl) (zM _ _).drew ?_;refine qR (.int .i64 (jn:Int)) ?_ (hy:=λf W' hf h=>by go_simp;try omega);refine qR (.int .i64 0) ?_ (hy:=λf W' hf h=>by go_simp;try omega);refine qR (.bool true) ?_ (hy:=λf W' hf h=>by go_simp;try omega);simp only[zzQ];refine qR (.bool true) ?_ (hy:=λf W' hf h=>by go_simp;try omega);refine qR (.func (.func 60) #[] #[]) ?_ (hy:=λf W' hf h=>by go_simp;try omega);refine qR (.slice (some ⟨g,0,none⟩) n cap) ?_ (hy:=λf W' hf h=>by go_simp;try omega);simp only[zzQ];refine qR (.int .i64 (jn:Int)) ?_ (hy:=λf W' hf h=>by go_simp;try omega);refine qR (.pointer (some ⟨g,jn*2,none⟩)) ?_ (hy:=λf W' hf h=>by go_simp;try omega);refine qR (.agg #[St x1,St y1]) ?_ (hy:=λf W' hf h=>by obtain⟨c0,c1⟩:=HC1.out;have d0:=zai h c0;have d1:=zai h c1;go_simp;try omega);simp only[zzQ];refine qR (.slice (some ⟨g,0,none⟩) n cap) ?_ (hy:=λf W' hf h=>by go_simp;try omega);refine qR (.int .i64 (jn:Int)) ?_ (hy:=λf W' hf h=>by go_simp;try omega);refine qR (.int .i64 (m:Int)) ?_ (hy:=λf W' hf h=>by go_simp;try omega);simp only[zzQ]
      refine qR (.pointer (some ⟨g,m*2,none⟩)) ?_ (hy:=λf W' hf h=>by go_simp;try omega);refine qR (.agg #[St x0,St y0]) ?_ (hy:=λf W' hf h=>by obtain⟨c0,c1⟩:=HC0.out;have d0:=zai h c0;have d1:=zai h c1;go_simp;try omega);simp only[zzQ]
      refine zar (.int .i64 nn) (by rfl) (λf W' hf h C' hC'=>by
       go_simp;refine zzM (HCM.out _ (HW.out _ (HB.out.trans (h.mono HGB.out)))) λw' hb=>?_;exact⟨rfl,hC' _ (h.trans (hb.mono h.size))⟩) ?_
      refine qR (.bool true) ?_ (hy:=λf W' hf h=>by go_simp;try omega);refine qR (.bool true) ?_ (hy:=λf W' hf h=>by go_simp;try omega);simp only[zzQ];refine zck λf X hf h=>?_;have HXB:=hid (HB.out.trans (h.mono HGB.out));have HO2:=hid (zcj (zac h) hO.out);clear hf h HB HGB hO HC1 HC0 HCM;go_wp21;have HHU2:Hid ((P.set (m+1) u)[m]? =some u):=hid (by rw[List.getElem?_set,if_neg (by omega)];exact HHU.out);refine zc4 (λ(_:Unit) i=>([.slice (some ⟨g,0,none⟩) n cap,.int .i64 (jn:Int),.slice (some ⟨g,0,none⟩) n cap,.int .i64 (jn:Int),.int .i64 (m:Int),.slice (some ⟨g,0,none⟩) n cap,.int .i64 (jn:Int),.int .i64 (m:Int),.pointer (some ⟨g,m*2,none⟩),.agg #[St x0,St y0],.slice (some ⟨g,0,none⟩) n cap,.int .i64 (jn:Int),.pointer (some ⟨g,jn*2,none⟩),.agg #[St x1,St y1],.pointer (some ⟨g,jn*2,none⟩),undef,.pointer (some ⟨g,m*2,none⟩),undef]:List Value).getD i undef) (ExcS w B g n cap P m u t) (by kernel_rfl) (by kernel_rfl) () ⟨HXB.out.drew,HO2.out⟩ λq=>?_;refine qB (.slice (some ⟨g,0,none⟩) n cap) (λf W' h=>h.congr rfl rfl) ?_ (hy:=λf W' hf h=>by go_simp;try omega);refine qB (.int .i64 (jn:Int)) (λf W' h=>h.congr rfl rfl) ?_ (hy:=λf W' hf h=>by go_simp;try omega);refine qB (.slice (some ⟨g,0,none⟩) n cap) (λf W' h=>h.congr rfl rfl) ?_ (hy:=λf W' hf h=>by go_simp;try omega);simp only[zzQ];refine qB (.int .i64 (jn:Int)) (λf W' h=>h.congr rfl rfl) ?_ (hy:=λf W' hf h=>by go_simp;try omega);refine qB (.int .i64 (m:Int)) (λf W' h=>h.congr rfl rfl) ?_ (hy:=λf W' hf h=>by go_simp;try omega);refine qB (.slice (some ⟨g,0,none⟩) n cap) (λf W' h=>h.congr rfl rfl) ?_ (hy:=λf W' hf h=>by go_simp;try omega);simp only[zzQ];refine qB (.int .i64 (jn:Int)) (λf W' h=>h.congr rfl rfl) ?_ (hy:=λf W' hf h=>by go_simp;try omega);refine qB (.int .i64 (m:Int)) (λf W' h=>h.congr rfl rfl) ?_ (hy:=λf W' hf h=>by go_simp;try omega);refine qB (.pointer (some ⟨g,m*2,none⟩)) (λf W' h=>h.congr rfl rfl) ?_ (hy:=λf W' hf h=>by go_simp;try omega);simp only[zzQ];refine qB (.agg #[St x0,St y0]) (λf W' h=>h.congr rfl rfl) ?_ (hy:=λf W' hf h=>by
       have h15:=hf.no (j:=15) hf.self (by kernel_rfl);have h17:=hf.no (j:=17) hf.self (by kernel_rfl);have ho:=h.own;rw[show excY P m u t f=P by unfold excY;rw[h15,h17];rfl] at ho;obtain⟨c0,c1⟩:=zu3 ho HHU.out;obtain⟨v1,v2,v3,v4⟩:=HVS.out;rw[v3] at c0;rw[v4] at c1;go_simp;try omega)
      refine qB (.slice (some ⟨g,0,none⟩) n cap) (λf W' h=>h.congr rfl rfl) ?_ (hy:=λf W' hf h=>by go_simp;try omega);refine qB (.int .i64 (jn:Int)) (λf W' h=>h.congr rfl rfl) ?_ (hy:=λf W' hf h=>by go_simp;try omega);simp only[zzQ];refine qB (.pointer (some ⟨g,jn*2,none⟩)) (λf W' h=>h.congr rfl rfl) ?_ (hy:=λf W' hf h=>by go_simp;try omega);refine qB (.agg #[St x1,St y1]) (λf W' h=>h.congr rfl rfl) ?_ (hy:=λf W' hf h=>by
       have h15:=hf.no (j:=15) hf.self (by kernel_rfl);have h17:=hf.no (j:=17) hf.self (by kernel_rfl);have ho:=h.own;rw[show excY P m u t f=P by unfold excY;rw[h15,h17];rfl] at ho;obtain⟨c0,c1⟩:=zu3 ho HHT.out;obtain⟨v1,v2,v3,v4⟩:=HVS.out;rw[v1] at c0;rw[v2] at c1;go_simp;try omega)
      refine qB (.pointer (some ⟨g,jn*2,none⟩)) (λf W' h=>h.congr rfl rfl) ?_ (hy:=λf W' hf h=>by go_simp;try omega);simp only[zzQ]
      refine zbv undef (by rfl) (by rfl) (λf W' hf h C' hC'=>by
       have h15:=hf.self;have h17:=hf.no (j:=17) hf.self (by kernel_rfl);have ho:=h.own;rw[show excY P m u t f=P by unfold excY;simp[h15,h17]] at ho;obtain⟨c0,c1⟩:=zu3 ho HHT.out;have z0:=z42 ho (jn*2);have z1:=z42 ho (jn*2+1);have hp:=zz6 ho HPL.out.symm hjnn u;obtain⟨v1,v2,v3,v4⟩:=HVS.out;rw[v3,v4] at hp;have hB':=z1y ho;have hc:=hC' _ (⟨(h.bel.setCell (by simp;omega) _).setCell (by simp;omega) _,(by unfold excY;simp[h17];rw[<-HM.out];rw[List.map_set] at hp;exact hp)⟩:ExcS w B g n cap P m u t q (λi=>if 15=i then true else f i) ((W'.setCell ⟨g,jn*2,none⟩ (St x0)).setCell ⟨g,jn*2+1,none⟩ (St y0)));clear ho hp h;go_simp;exact hc) ?_
      refine qB (.pointer (some ⟨g,m*2,none⟩)) (λf W' h=>h.congr rfl rfl) ?_ (hy:=λf W' hf h=>by go_simp;try omega);simp only[zzQ]
      refine zbv undef (by rfl) (by rfl) (λf W' hf h C' hC'=>by
       have h15:=hf.done 15 (by kernel_rfl);have h17:=hf.self;have ho:=h.own;rw[show excY P m u t f=P.set (m+1) u by unfold excY;simp[h15,h17]] at ho;obtain⟨c0,c1⟩:=zu3 ho HHU2.out;have z0:=z42 ho (m*2);have z1:=z42 ho (m*2+1);have hp:=zz6 ho (by rw[List.length_set];exact HPL.out.symm) hmn t;obtain⟨v1,v2,v3,v4⟩:=HVS.out;rw[v1,v2] at hp;have hB':=z1y ho;have hc:=hC' _ (⟨(h.bel.setCell (by simp;omega) _).setCell (by simp;omega) _,(by unfold excY;simp;exact hp)⟩:ExcS w B g n cap P m u t q (λi=>if 17=i then true else f i) ((W'.setCell ⟨g,m*2,none⟩ (St x1)).setCell ⟨g,m*2+1,none⟩ (St y1)));clear ho hp h;go_simp;exact hc) ?_
      try simp only[zzQ]
      refine ze1 λf W5 hf h=>?_;have HF:=hid h;have HL:=hid (show excY P m u t f=swS P m u t from if_pos (hf 17 (by decide)));clear h hf;go_wp21;go_roundw
      case rel=>exact⟨m,swS P m u t,by have:=HM.out;omega,by rfl,HE,hid HF.out.bel,by rw[<-HL.out];exact HF.out.own⟩
      case measure=>simp[zL];have:=HM.out;omega
  ·have HE:=hid (hS.out.end_ (by omega) HD.out)
   go_wp21;go_end0;exact⟨⟨_,rfl⟩,D1.out,by rw[<-HE.out];exact hO.out⟩
theorem z33 (v f:Value) (n:Nat) (hn:n<=12) (b:Int) (w:zA) (Q:zA->Prop)
 (IN:Hid (zC zF 194 #[v,.int .i64 0,.int .i64 (n:Int),f] w λe w'=>(∃u,e=.returned u)/\Q w')):
 zC zF 125 #[v,.int .i64 0,.int .i64 (n:Int),.int .i64 b,f] w λe w'=>(∃u,e=.returned u)/\Q w':=by
 have hw0:IntKind.i64.wrap ((n:Int)-0)=(n:Int):=by rw[zI _ (by omega)];omega
 have hw1:IntKind.i64.wrap (n:Int)=(n:Int):=zI _ (by omega);have h12:(n:Int)<=12:=by omega
 go_enter Tryz.func125,Tryz.ntmps125;go_wp21;refine wp_loop_rounds 1 ?_;rw[rounds_succ];go_wp21;refine IN.out.mono ?_;rintro e w' ⟨⟨u,rfl⟩,hb⟩;have HB:=hid hb;clear hb;go_wp21;refine bodyPost_ret (results_none rfl _ _ _) rfl ?_;exact⟨⟨_,rfl⟩,HB.out⟩
theorem z2z (v:Value) (p:Option Addr) (cap:Nat) (f:Value) (n:Nat) (hn:n<=12) (hv:v=.slice p n cap) (w:zA) (Q:zA->Prop)
 (IN:Hid (zC zF 194 #[.slice p n cap,.int .i64 0,.int .i64 (n:Int),f] w λe w'=>(∃u,e=.returned u)/\Q w')):
 zC zF 59 #[v,f] w λe w'=>(∃u,e=.returned u)/\Q w':=by
 have hl:=Tryz.bits_Len n w (by omega) (by omega);have HL:=hid hl;clear hl;have HI:=hid λm=>z33 (.slice p n cap) f n hn m w Q IN;have hwu:IntKind.u64.wrap (n:Int)=(n:Int):=IntWalk.u64_in _ (by omega);subst hv;go_enter Tryz.func59,Tryz.ntmps59;go_wp21;refine HL.out.mono ?_;rintro e w' ⟨rfl,rfl⟩;go_wp21;refine(HI.out _).mono ?_;rintro e w'' ⟨⟨u,rfl⟩,hb⟩;have HB:=hid hb;clear hb;go_wp21;go_end0;exact⟨⟨_,rfl⟩,HB.out⟩
theorem z34 (B:Nat) (L:List (Rat×Nat)) (hn:L.length<=12) (hd:DisR L) (hnr:∀t∈L,NrmR t.2) (p:Option Addr) (c:Nat) (W:zA) (HW:Hid (∀V,zB B W V->Wd V)) (hB:B<=W.heap.size) (h:W.ownsRow B 37 2 (.slice p L.length c) L.length (zbj (L.map strT))):
 zC zF 59 #[.slice p L.length c,.func (.func 60) #[] #[]] W λe w'=>(∃u,e=.returned u)/\zB B W w'/\w'.ownsRow B 37 2 (.slice p L.length c) L.length (zbj ((srtS L).map strT)):=by
 rcases Nat.eq_zero_or_pos L.length with e0|e0
 ·obtain rfl:=List.length_eq_zero_iff.1 e0
  exact z2z (.slice p 0 c) p c _ 0 (by omega) rfl W _ (hid ((zgi _ _ W).mono λe w' ⟨h5,h6⟩=>⟨h5,h6.mono hB,zcj (zac h6) h⟩))
 ·obtain⟨g,c',e, -, -⟩:=zye h e0
  injection e with e1 _ e2;subst e1;subst e2;exact z2z _ _ _ _ L.length hn rfl W _ (hid (z17 B g c L.length L rfl hn hd (hid λt u ht hu=>by
   have st:sz (t.2:Rat) 20:=zrg (by omega) (hnr t ht).len;have su:sz (u.2:Rat) 20:=zrg (by omega) (hnr u hu).len;refine⟨Geo.cmpR (t.2:Rat) (u.2:Rat),?_,λV hV=>z5e _ _ _ _ _ (hid λU hU=>?_) V (hid hV)⟩
   ·have hc:=Geo.zaw (t.2:Rat) (u.2:Rat)
    have e:(t.2<u.2)↔(t.2:Rat)<(u.2:Rat):=by constructor<;>intro h<;>exact_mod_cast h
    rw[decide_eq_decide,e];grind
   ·have:=zgq (t.2:Rat) (u.2:Rat) 20 20 (by omega) (by omega) (by omega) st su U hU
    rw[zhe,zhe] at this;exact this) W HW hB (hid h)))
theorem zr8 (r s:Nat) (h:NrmR r) (hs:NrmR s) (ha:z5c (r:Rat) (s:Rat)=true) (W:zA) (hW:Wd W):qJ 121 #[St (zD r),St (zD s)] W (.tuple #[St (numS (rt ((r:Rat)/(s:Rat)))),.bool true,.int .i64 0]):=by
 have hp:(0:Rat)<(r:Rat):=by have:=h.pos;exact_mod_cast this
 have hq:(0:Rat)<(s:Rat):=by have:=hs.pos;exact_mod_cast this
 have sr:sz (r:Rat) 90:=(zrg (by omega) h.len).mono (by omega);have ss:sz (s:Rat) 90:=(zrg (by omega) hs.len).mono (by omega);have:=zvz (r:Rat) (s:Rat) (Rat.le_of_lt hp) hq sr ss _ _ (zv0 _) (zv0 _) W hW;unfold z5c at ha;rw[ha,if_pos rfl,zhe,zhe] at this;exact this
theorem z5b (r s:Nat) (h:NrmR r) (hs:NrmR s):∃n:Int,(decide (n<0)=decide (r<s))/\qK 27 #[St (zD r),St (zD s)] (.tuple #[.int .i64 n,.int .i64 0]):=by
 have sr:sz (r:Rat) 20:=zrg (by omega) h.len;have ss:sz (s:Rat) 20:=zrg (by omega) hs.len;refine⟨Geo.cmpR (r:Rat) (s:Rat),?_,λW hW=>?_⟩
 ·have hc:=Geo.zaw (r:Rat) (s:Rat)
  have e:(r<s)↔(r:Rat)<(s:Rat):=by constructor<;>intro h<;>exact_mod_cast h
  rw[decide_eq_decide,e];grind
 ·have:=zgq (r:Rat) (s:Rat) 20 20 (by omega) (by omega) (by omega) sr ss W hW
  rw[zhe,zhe] at this;exact this
theorem z35 (gb:Nat) (l:List (Rat×Nat)) (t:Rat×Nat) (hl:l.length<=5000) (ht:NrmR t.2) (hc:∀c∈l,NrmR c.2) (hs:∀c∈l,sz c.1 140) (hst:sz t.1 140) (W:zA) (hW:Wd W) (h:GatL gb (l.map strT) W):
 zC zF 57 #[.pointer (some ⟨gb,0,none⟩),.agg #[St (numS t.1),St (zD t.2)]] W λe w'=>e=.returned (.int .i64 0)/\zB gb W w'/\GatL gb ((gaG l t).map strT) w':=by
 rcases zm7 t l with⟨h1,h2⟩|⟨j,c,h1,h2,h3,h4⟩
 ·have:=zot gb (l.map strT) (numS t.1) (zD t.2) (by simpa using hl) (hid λi d hd=>by
   rw[List.getElem?_map,Option.map_eq_some_iff] at hd;obtain⟨c,hi,rfl⟩:=hd;have hm:=List.mem_of_getElem? hi;exact⟨_,λV hV=>zf4 t.2 c.2 ht (hc c hm) (h1 c hm) V hV⟩) W (hid hW) (hid h)
  rw[h2,List.map_append];exact this
 ·have hm:=List.mem_of_getElem? h1
  have nc:=hc c hm;have a1:=zx2 nc;have a2:=zx2 ht;have p1:=nc.pos;have p2:=ht.pos;obtain⟨nn,hnn,hcmp⟩:=z5b t.2 c.2 ht nc;have hR:Hid (∀(i:Nat) (d:List UInt8×List UInt8),i<j->(l.map strT)[i]? =some d->∃k,qK 121 #[St (zD t.2),St d.2] (.tuple #[.string k,.bool false,.int .i64 0])):=hid λi d hi hd=>by
   rw[List.getElem?_map,Option.map_eq_some_iff] at hd;obtain⟨x,hx,rfl⟩:=hd;have hmx:=List.mem_of_getElem? hx;exact⟨_,λV hV=>zf4 t.2 x.2 ht (hc x hmx) (h3 i x hi hx) V hV⟩
  rw[h4];have e:(l.set j (plG c t)).map strT=(l.map strT).set j (strT (plG c t)):=by rw[List.map_set]
  rw[e];by_cases hlt:t.2<c.2
  ·have sk:=zzs (k:=10) (zvm (n:=c.2) (d:=t.2) (k:=20) (by omega) a1 a2)
   have sm:=zca (hs c hm) sk;have ha:z5c (c.2:Rat) (t.2:Rat)=true:=zu5 (by exact_mod_cast p2) (by exact_mod_cast p1) h2;have hz:plG c t=(t.1+c.1*rt ((c.2:Rat)/(t.2:Rat)),t.2):=by unfold plG;rw[if_pos hlt]
   have:=zrp gb (l.map strT) (numS t.1) (zD t.2) (numS c.1) (zD c.2) (numS (t.1+c.1*rt ((c.2:Rat)/(t.2:Rat)))) (zD t.2) ⟨(numS (rt ((t.2:Rat)/(c.2:Rat)))).toArray⟩ j nn true (by simpa using hl) (by rw[List.getElem?_map,h1];rfl) (by rw[hnn];exact decide_eq_true hlt) hR
    (hid λV hV=>zr8 t.2 c.2 ht nc h2 V hV)
    (hid hcmp)
    (hid λV hV=>zvt (numS t.1) (zD t.2) (numS c.1) (zD c.2) (numS (rt ((c.2:Rat)/(t.2:Rat)))) (numS (c.1*rt ((c.2:Rat)/(t.2:Rat)))) (numS (t.1+c.1*rt ((c.2:Rat)/(t.2:Rat)))) true (hid λU hU=>zr8 c.2 t.2 nc ht ha U hU) (hid λU hU=>zjf _ _ 140 10 (by omega) (by omega) (by omega) (hs c hm) sk U hU) (hid λU hU=>zje _ _ 140 150 (by omega) (by omega) (by omega) hst sm U hU) V (hid hV)) W (hid hW) (hid h)
   rw[hz];exact this
  ·have sk:=zzs (k:=10) (zvm (n:=t.2) (d:=c.2) (k:=20) (by omega) a2 a1)
   have sm:=zca hst sk;have hz:plG c t=(c.1+t.1*rt ((t.2:Rat)/(c.2:Rat)),c.2):=by unfold plG;rw[if_neg hlt]
   have:=zrp gb (l.map strT) (numS t.1) (zD t.2) (numS c.1) (zD c.2) (numS (c.1+t.1*rt ((t.2:Rat)/(c.2:Rat)))) (zD c.2) ⟨(numS (rt ((t.2:Rat)/(c.2:Rat)))).toArray⟩ j nn false (by simpa using hl) (by rw[List.getElem?_map,h1];rfl) (by rw[hnn];exact decide_eq_false hlt) hR
    (hid λV hV=>zr8 t.2 c.2 ht nc h2 V hV)
    (hid hcmp)
    (hid λV hV=>zvt (numS c.1) (zD c.2) (numS t.1) (zD t.2) (numS (rt ((t.2:Rat)/(c.2:Rat)))) (numS (t.1*rt ((t.2:Rat)/(c.2:Rat)))) (numS (c.1+t.1*rt ((t.2:Rat)/(c.2:Rat)))) true (hid λU hU=>zr8 t.2 c.2 ht nc h2 U hU) (hid λU hU=>zjf _ _ 140 10 (by omega) (by omega) (by omega) hst sk U hU) (hid λU hU=>zje _ _ 140 150 (by omega) (by omega) (by omega) (hs c hm) sm U hU) V (hid hV)) W (hid hW) (hid h)
   rw[hz];exact this
structure MkGT (T:List (Rat×Nat)):Prop where
 len:T.length<=12
 ne:∀t∈T,t.1≠0
 tsz:∀t∈T,sz t.1 140
 nr:∀t∈T,NrmR t.2
 mid:∀i,i<T.length->∀c∈grG T i,sz c.1 140
 fin:∀c∈grG T T.length,sz c.1 200
theorem SdOk.uls {l:List (Rat×Nat)} (h:SdOk l):ULs l:=h.apt
theorem SdOk.pos {l:List (Rat×Nat)} (h:SdOk l):PosR l:=λt ht=>by have:=(h.trm t ht).nr.pos;exact_mod_cast this
theorem zz7 {l r:List (Rat×Nat)} (hl:SdOk l) (hr:SdOk r) (hlen:l.length+r.length<=12):MkGT (l++r):=by
 have hm:∀t∈l++r,TrmR t.1 t.2:=λt ht=>(List.mem_append.1 ht).elim (hl.trm t) (hr.trm t);have all:∀i,∀c∈grG (l++r) i,sz c.1 140:=λi c hc=>by
  rcases Nat.lt_or_ge i l.length with h|h
  ·rw[zyd hl.uls i (by omega)] at hc
   exact(hl.trm c (List.mem_of_mem_take hc)).sc.mono (by omega)
  ·obtain⟨k,rfl⟩:∃k,i=l.length+k:=⟨i-l.length,by omega⟩
   rcases zzz hl.uls hr.uls hl.pos hr.pos k c hc with h1|h1|⟨a,ha,b,hb,_,rfl⟩
   ·exact(hl.trm c h1).sc.mono (by omega)
   ·exact(hr.trm c (List.mem_of_mem_take h1)).sc.mono (by omega)
   ·have hb2:=List.mem_of_mem_take hb
    exact z6m (hl.trm a ha).nr (hr.trm b hb2).nr (hl.trm a ha).sc (hr.trm b hb2).sc
 exact⟨by simpa using hlen,λt ht=>(hm t ht).ne,λt ht=>(hm t ht).sc.mono (by omega),λt ht=>(hm t ht).nr,λi _ c hc=>all i c hc,λc hc=>(all _ c hc).mono (by omega)⟩
theorem z18 (T:List (Rat×Nat)) (hT:MkGT T) (X Y:Nat->List UInt8) (hX:∀i t,T[i]? =some t->X i=numS t.1/\Y i=zD t.2) (q:Option Addr) (cap:Nat) (w:zA) (HW:Hid (∀W,qL w W->Wd W)) (HP:Hid (∀W,qL w W->Pw W))
 (HT:Hid (∀i t,T[i]? =some t->∃b off,q=some ⟨b,off,none⟩/\b<w.heap.size/\w.cell? ⟨b,off+i*2,none⟩=some (St (numS t.1))/\w.cell? ⟨b,off+i*2+1,none⟩=some (St (zD t.2)))) (u vg:zA) (h1:qL w u) (h2:qL u vg) (h3:vg.heap.size=u.heap.size+1) (h4:GatL u.heap.size [] vg):
 zC zF 56 #[.slice q T.length cap,.func (.func 57) #[.pointer (some ⟨u.heap.size,0,none⟩)] #[]] vg λe w'=>e=.returned (.int .i64 0)/\zB u.heap.size vg w'/\GatL u.heap.size ((grG T T.length).map strT) w':=by
 have at_:∀i,i<T.length->∃t,T[i]? =some t:=λi hi=>⟨_,yB hi⟩;have hrt:∀t∈T,okQ (t.2:Rat):=λt ht=>zd0 (by omega) (by omega) (zrg (k:=20) (by omega) (hT.nr t ht).len);have hcr:∀(i:Nat) (c:Rat×Nat),c∈grG T i->NrmR c.2:=λi c hc=>by
  obtain⟨t,ht,e⟩:=zvl i hc;rw[<-e];exact hT.nr t ht
 have hs:=h1.size
 exact z4e u.heap.size q cap T.length X Y (λi=>GatL u.heap.size ((grG T i).map strT)) (by have:=hT.len;omega)
  (hid λi hi=>by
    obtain⟨t,ht⟩:=at_ i hi;have hmt:=List.mem_of_getElem? ht;have hn:=hT.nr t hmt;have sr:sz (t.2:Rat) 20:=zrg (by omega) hn.len;have d1:zD 1=[49]:=by rw[zae (by omega)];rfl
    have hlg:∃ln:Int,ln<=90/\qK 58 #[St (zD t.2)] (.int .i64 ln):=by
     have d:=zok (k:=20) (by omega) sr;refine⟨max (digs (t.2:Rat).num:Int) (digs ((t.2:Rat).den:Int):Nat),?_,λW hW=>?_⟩
     ·have d2:digs ((t.2:Rat).den:Int)<=20:=by rw[zd9];exact d.2
      have:=d.1;omega
     ·have:=znp (t.2:Rat) (hrt t hmt) W hW
      rw[zhe] at this;exact this
    obtain⟨ln,hln,hlw⟩:=hlg;have hadd:∀W:zA,Wd W->GatL u.heap.size ((grG T i).map strT) W->zC zF 57 #[.pointer (some ⟨u.heap.size,0,none⟩),.agg #[St (numS t.1),St (zD t.2)]] W λe w'=>e=.returned (.int .i64 0)/\zB u.heap.size W w'/\GatL u.heap.size ((grG T (i+1)).map strT) w':=λW hW hg=>by
     rw[zr9 ht];exact z35 u.heap.size (grG T i) t (by have:=zw1 T i;have:=hT.len;omega) hn (λc hc=>hcr i c hc) (λc hc=>hT.mid i hi c hc) (hT.tsz t hmt) W hW hg
    rw[(hX i t ht).1,(hX i t ht).2];have hcz:=zsf (hT.ne t hmt);have hrz:(zD t.2==[48])=false:=by
     rw[beq_eq_false_iff_ne];intro e;have:zD t.2=zD 0:=by rw[e,zae (by omega)];rfl
     have h0:=hn.pos;rw[<-Str.zad,<-Str.zad] at this;have:=zdo this;omega
    by_cases e1:t.2=1
    ·refine⟨true,[49],zD t.2,numS t.1,ln,hcz,hrz,by rw[e1,d1];rfl,λ_=>⟨rfl,rfl⟩,λh=>(by cases h),hlw,decide_eq_false (by omega),λW hW=>?_,λW W' h hb=>GatL.keep h (zac hb),hadd⟩
     have:=z61 t.1 1 t.1 140 1 (by omega) (by omega) (by omega) (hT.tsz t hmt) zb7.2.1 (by rw[Rat.mul_one]) W hW;rw[zfc] at this;exact this
    ·refine⟨false,zD 1,zD t.2,numS t.1,ln,hcz,hrz,?_,λh=>(by cases h),λ_ W hW hP=>?_,hlw,decide_eq_false (by omega),λW hW=>?_,λW W' h hb=>GatL.keep h (zac hb),hadd⟩
     ·rw[beq_eq_false_iff_ne,<-d1];intro e
      rw[<-Str.zad,<-Str.zad] at e;have:=zdo e;omega
     ·have:=zz4 t.2 hn.pos (by have:=hn.len;omega) W hW hP
      rw[hn.nc] at this;exact this
     ·have:=z61 t.1 1 t.1 140 1 (by omega) (by omega) (by omega) (hT.tsz t hmt) zb7.2.1 (by rw[Rat.mul_one]) W hW
      rw[zfc] at this;rw[d1];exact this) vg (by omega)
  (hid λW h=>HW.out _ (h1.trans ((h2.trans h).mono hs))) (hid λW h=>HP.out _ (h1.trans ((h2.trans h).mono hs))) h4
  (hid λi hi=>by
    obtain⟨t,ht⟩:=at_ i hi;obtain⟨b,off,e,hb,c0,c1⟩:=HT.out i t ht;have hB:qL w vg:=h1.trans (h2.mono hs);rw[(hX i t ht).1,(hX i t ht).2];exact⟨b,off,e,by omega,by rw[hB.cell (p:=⟨b,off+i*2,none⟩) hb];exact c0,by rw[hB.cell (p:=⟨b,off+i*2+1,none⟩) hb];exact c1⟩)
theorem zyf {α:Type} (p:α->Bool):∀l:List α,(∀c∈l,p c=false)\/∃(j:Nat) (c:α),l[j]? =some c/\p c=true/\∀(i:Nat) (d:α),i<j->l[i]? =some d->p d=false
 |[]=>.inl λc h=>(by cases h)
 |a::l=>by
  cases e:p a
  ·rcases zyf p l with h|⟨j,c,h1,h2,h3⟩
   ·left
    intro c hc;rcases List.mem_cons.1 hc with rfl|hc
    ·exact e
    ·exact h c hc
   ·right
    refine⟨j+1,c,by simpa using h1,h2,λi d hi hd=>?_⟩
    cases i with
    |zero=>simp at hd;subst hd;exact e
    |succ i=>exact h3 i d (by omega) (by simpa using hd)
  ·exact .inr ⟨0,a,rfl,e,λi d hi=>by omega⟩
def MkR (l:List (Rat×Nat)) (v:Value) (r:Int) (W:zA):Prop:=(r=0/\SdL v l W/\∀c∈l,sz c.1 60)\/(r=4/\v=.slice none 0 0/\¬ ∀c∈l,sz c.1 60)
def MkOut (l:List (Rat×Nat)) (w:zA) (e:Ending) (w':zA):Prop:=
 ∃q n c r,e=.returned (.tuple #[.slice q n c,.int .i64 r])/\zB w.heap.size w w'/\MkR l (.slice q n c) r w'
theorem MkOut.ok {l:List (Rat×Nat)} {w w':zA} {e:Ending} (h:MkOut l w e w') (hs:∀c∈l,sz c.1 60):∃v,e=.returned (.tuple #[v,.int .i64 0])/\zB w.heap.size w w'/\SdL v l w':=by
 obtain⟨q,n,c,r,e1,hb,⟨rfl,h,_⟩|⟨_,_,h⟩⟩:=h
 ·exact⟨_,e1,hb,h⟩
 ·exact absurd hs h
instance szDec (q:Rat) (k:Nat):Decidable (sz q k):=inferInstanceAs (Decidable (_/\_))
theorem z23 (T:List (Rat×Nat)) (hT:MkGT T) (v:Value) (w:zA) (HW:Hid (∀W,qL w W->Wd W)) (HP:Hid (∀W,qL w W->Pw W)) (hs:SdL v T w):
 zC zF 13 #[v] w (MkOut (mkG T) w):=by
 obtain⟨q,cap,rfl, -,hx⟩:=hs.slice;have HT:=hid hx;have at_:∀i,i<T.length->∃t,T[i]? =some t:=λi hi=>⟨_,yB hi⟩;let X:Nat->List UInt8:=λi=>numS ((T[i]?.getD (1,1)).1);let Y:Nat->List UInt8:=λi=>zD ((T[i]?.getD (1,1)).2);have hX:∀i t,T[i]? =some t->X i=numS t.1/\Y i=zD t.2:=λi t h=>⟨by show numS ((T[i]?.getD (1,1)).1)=_;rw[h];rfl,by show zD ((T[i]?.getD (1,1)).2)=_;rw[h];rfl⟩;have hk:zin ((grG T T.length).map strT)=(keG T).map strT:=by rw[zi3,zuk];rfl
 have hgl:(grG T T.length).length<=T.length:=zw1 T _;have hlen:=hT.len;have hkl:=(zw5 T).2;have hrt:∀t∈T,okQ (t.2:Rat):=λt ht=>zd0 (by omega) (by omega) (zrg (k:=20) (by omega) (hT.nr t ht).len);have hcr:∀(i:Nat) (c:Rat×Nat),c∈grG T i->NrmR c.2:=λi c hc=>by
  obtain⟨t,ht,e⟩:=zvl i hc;rw[<-e];exact hT.nr t ht
 have CK:Hid (∀i,i<T.length->qK 54 #[St (X i)] (.int .i64 0)):=hid λi hi W hW=>by
  obtain⟨t,ht⟩:=at_ i hi;rw[(hX i t ht).1];exact zfj t.1 (zd0 (by omega) (by omega) (hT.tsz t (List.mem_of_getElem? ht))) W hW
 have RK:Hid (∀i,i<T.length->qK 54 #[St (Y i)] (.int .i64 0)):=hid λi hi W hW=>by
  obtain⟨t,ht⟩:=at_ i hi;rw[(hX i t ht).2];have:=zfj (t.2:Rat) (hrt t (List.mem_of_getElem? ht)) W hW;rw[zhe] at this;exact this
 have PF:Hid (∀i,i<T.length->∀W:zA,zC zF 55 #[St (Y i),.string ⟨#[45]⟩] W λe w'=>e=.returned (.bool false)/\w'=W):=hid λi hi W=>by
  obtain⟨t,ht⟩:=at_ i hi;rw[(hX i t ht).2];exact zgy t.2 W
 have HT2:Hid (∀i,i<T.length->∃b off,q=some ⟨b,off,none⟩/\b<w.heap.size/\w.cell? ⟨b,off+i*2,none⟩=some (St (X i))/\w.cell? ⟨b,off+i*2+1,none⟩=some (St (Y i))):=hid λi hi=>by
  obtain⟨t,ht⟩:=at_ i hi;rw[(hX i t ht).1,(hX i t ht).2];exact HT.out i t ht
 have VIS:=hid λ(u vg:zA) h1 h2 h3 h4=>z18 T hT X Y hX q cap w HW HP HT u vg h1 h2 h3 h4;have mid:=hT.fin;have lng:∀(c:Rat×Nat),c∈grG T T.length->(sz c.1 60->decide (60<(max (digs c.1.num:Int) (digs (c.1.den:Int):Nat)))=false)/\(¬sz c.1 60->decide (60<(max (digs c.1.num:Int) (digs (c.1.den:Int):Nat)))=true):=λc hc=>by
  refine⟨λh=>?_,λh=>?_⟩
  ·have da:=zok (k:=60) (by omega) h
   have da2:digs (c.1.den:Int)<=60:=by rw[zd9];exact da.2
   exact decide_eq_false (by have:=da.1;omega)
  ·refine decide_eq_true ?_
   have:¬(digs c.1.num<=60/\digs (c.1.den:Int)<=60):=λ⟨k1,k2⟩=>h ⟨(za3 _ _ (by omega)).1 k1,by have:=(za3 _ _ (by omega)).1 k2;rwa [Int.natAbs_natCast] at this⟩;omega
 have core:=λ(j0:Nat) (h60:∀(i:Nat) (c:Rat×Nat),i<j0->(grG T T.length)[i]? =some c->c.1≠0->sz c.1 60) EN=>zl0 q cap T.length X Y ((grG T T.length).map strT) ((mkG T).map strT) j0 (by omega) (by rw[zV];omega) CK RK PF w HW HT2 VIS
  (hid λi d hij hd h0=>by
    rw[List.getElem?_map,Option.map_eq_some_iff] at hd;obtain⟨c,hc,rfl⟩:=hd;have hmc:=List.mem_of_getElem? hc;have hne:c.1≠0:=λe=>by
     have:((strT c).1==[48])=true:=by unfold strT;rw[e];simp[zie]
     rw[this] at h0;cases h0
    have s60:=h60 i c hij hc hne;have hn:=hcr _ c hmc;have sr:sz (c.2:Rat) 20:=zrg (by omega) hn.len;have dr:=zok (k:=20) (by omega) sr;have dr2:digs ((c.2:Rat).den:Int)<=20:=by rw[zd9];exact dr.2
    refine⟨max (digs c.1.num:Int) (digs (c.1.den:Int):Nat),max (digs (c.2:Rat).num:Int) (digs ((c.2:Rat).den:Int):Nat),λW hW=>znp c.1 (zd0 (by omega) (by omega) s60) W hW,λW hW=>?_,(lng c hmc).1 s60,decide_eq_false (by have:=dr.1;omega)⟩;have:=znp (c.2:Rat) (zd0 (by omega) (by omega) sr) W hW;rw[zhe] at this;exact this) EN
 rcases zyf (λc:Rat×Nat=>!decide (c.1=0)&&!decide (sz c.1 60)) (grG T T.length) with hgood|⟨j,c,hj,hb,hbe⟩
 ·have h60:∀c∈grG T T.length,c.1≠0->sz c.1 60:=λc hc hne=>by simpa [hne] using hgood c hc
  refine(core (grG T T.length).length (λi c _ hc hne=>h60 c (List.mem_of_getElem? hc) hne) (hid (.inl ⟨by rw[zV],by rw[hk,zV];omega,λB W p c h1 h2 h3 h4=>by
   rw[hk,zV] at h4⊢;have hp:PosR T:=λt ht=>by have:=(hT.nr t ht).pos;exact_mod_cast this
   exact z34 B (keG T) (by omega) (z1u hp) (λt ht=>by
    have h2:=List.mem_filter.1 ht;rw[<-zuk] at h2;exact hcr _ t h2.1) p c W (hid λV hV=>HW.out V (h1.trans (hV.mono h2))) h3 h4⟩))).mono λe w' ⟨q',m,c',r,e1,hb,h⟩=>?_
  rcases h with⟨rfl,_,rfl,ho⟩|⟨_,h,_⟩
  ·refine⟨_,_,_,_,e1,hb,.inl ⟨rfl,?_,λc hc=>h60 c (zx8 hc).1 (zx8 hc).2⟩⟩
   rw[hk,zV] at ho;have:(keG T).length=(mkG T).length:=(zw5 T).1.symm;rw[hk,zV];exact SdL.own ho this
  ·rw[zV] at h;omega
 ·have hmc:=List.mem_of_getElem? hj
  rw[Bool.and_eq_true,Bool.not_eq_true',Bool.not_eq_true',decide_eq_false_iff_not,decide_eq_false_iff_not] at hb;have hjl:=(List.getElem?_eq_some_iff.1 hj).1;refine(core j (λi c hij hc hne=>by simpa [hne] using hbe i c hij hc) (hid (.inr ⟨(strT c).1,(strT c).2,_,by rw[List.getElem?_map,hj];rfl,zsf hb.1,(lng c hmc).2 hb.2,λW hW=>znp c.1 (zd0 (k:=200) (by omega) (by omega) (mid c hmc)) W hW⟩))).mono λe w' ⟨q',m,c',r,e1,hb',h⟩=>?_;rcases h with⟨_,h,_⟩|⟨rfl,_,rfl,rfl,rfl⟩
  ·rw[zV] at h;omega
  ·refine⟨_,_,_,_,e1,hb',.inr ⟨rfl,rfl,λh=>hb.2 (h c ((zvb c _).2 ?_))⟩⟩
   unfold keG;rw[<-zuk];exact List.mem_filter.2 ⟨hmc,by simp[hb.1]⟩
theorem zjg (T:List (Rat×Nat)) (hlen:T.length<=256) (hz:∀t∈T,t.1=0) (hr:∀t∈T,NrmR t.2) (v:Value) (w:zA) (HW:Hid (∀W,qL w W->Wd W)) (hs:SdL v T w):
 zC zF 13 #[v] w λe w'=>∃v',e=.returned (.tuple #[v',.int .i64 0])/\zB w.heap.size w w'/\SdL v' [] w':=by
 obtain⟨p,cap,rfl, -,hx⟩:=hs.slice;have n0:=nm0;have d0:∀t∈T,numS t.1=[48]:=λt ht=>by rw[hz t ht,n0]
 let Y:Nat->List UInt8:=λi=>zD ((T[i]?.getD (0,1)).2);have at_:∀i,i<T.length->∃t,T[i]? =some t:=λi hi=>⟨_,yB hi⟩;have hY:∀i t,T[i]? =some t->Y i=zD t.2:=λi t h=>by show zD ((T[i]?.getD (0,1)).2)=_;rw[h];rfl
 have hm:=zl0 p cap T.length (λ_=>[48]) Y [] [] 0 hlen (by simp)
  (hid λi hi W hW=>by have:=zfj 0 (zm5 zb7.1) W hW;rw[n0] at this;exact this)
  (hid λi hi W hW=>by
    obtain⟨t,ht⟩:=at_ i hi;rw[hY i t ht];have hn:=hr t (List.mem_of_getElem? ht);have:=zfj (t.2:Rat) (zd0 (by omega) (by omega) (zrg (k:=20) (by omega) hn.len)) W hW;rw[zhe] at this;exact this)
  (hid λi hi W=>by
    obtain⟨t,ht⟩:=at_ i hi;rw[hY i t ht];exact zgy t.2 W)
  w HW
  (hid λi hi=>by
    obtain⟨t,ht⟩:=at_ i hi;obtain⟨b,off,e,hb,c0,c1⟩:=hx i t ht;rw[d0 t (List.mem_of_getElem? ht)] at c0;rw[hY i t ht];exact⟨b,off,e,hb,c0,c1⟩)
  (hid λu vg h1 h2 h3 h4=>by
    have hB:qL w vg:=h1.trans (h2.mono h1.size);refine(zmd p cap T.length Y _ (by omega) vg (hid λi hi=>?_)).mono λe w' ⟨e1,hb⟩=>⟨e1,hb.mono h2.size,h4.keep (zac hb)⟩;obtain⟨t,ht⟩:=at_ i hi;obtain⟨b,off,e,hb,c0,c1⟩:=hx i t ht;rw[d0 t (List.mem_of_getElem? ht)] at c0;rw[hY i t ht];exact⟨b,off,e,zai hB c0,zai hB c1⟩)
  (hid λi c hi _ _=>by omega)
  (hid (.inl ⟨rfl,by simp[zin],λB W q c h1 h2 h3 h4=>z34 B [] (by simp) List.Pairwise.nil (λt h=>by cases h) q c W (hid λV hV=>HW.out V (h1.trans (hV.mono h2))) h3 h4⟩))
 refine hm.mono λe w' ⟨q',m,c',r,e1,hb,h⟩=>?_;rcases h with⟨rfl,_,rfl,ho⟩|⟨_,h,_⟩
 ·exact⟨_,e1,hb,SdL.own (l:=[]) ho rfl⟩
 ·exact absurd h (by simp)
end
section
open Go.RowKit Go.Shelf Lib Str Limb Geo
attribute [local go_sem] Oper.semAt_some
end
section
open Go.RowKit Go.Shelf Lib Str Limb
open Go.ChangeShapes Go.WideShapes Go.ChangeAt
theorem z80 {l:List (String×DataW Unit)} {W:zA} (hL:laidMet zF l W) (hm:("kingpost/surd.signPlaces",Rows.laid_kingpost_surd_signPlaces)∈l):Spw W:=by
 obtain⟨g,t,cs,fuel,p,hg,ht,hv,hd⟩:=Lib.laidMet.reads hL hm;obtain rfl:g=0:=Option.some.inj (hg.symm.trans (by kernel_rfl));obtain rfl:t=178:=Option.some.inj (ht.symm.trans (by kernel_rfl));have e:(Rows.laid_kingpost_surd_signPlaces:DataW Unit)=Lib.tabData .i64 [4,16,64]:=by kernel_rfl
 rw[e] at hd;have hc:=Lib.cells_of_tab (n:=3) Tryz.underlying178 Tryz.underlying3 (by kernel_rfl) (by kernel_rfl) hd;obtain rfl:cs=spV:=Array.toList_inj.1 (hc.trans (by kernel_rfl));exact⟨hv⟩
end
section
open Go.RowKit Go.Shelf Lib Str Limb
theorem zrr (x:Rat):(x.num:Rat)=x*(x.den:Rat):=by
 have h:=Rat.num_divInt_den x;rw[Rat.divInt_eq_div] at h;have h0:((x.den:Int):Rat)≠0:=by
  have:=x.den_nz;exact_mod_cast this
 have h1:(x.num:Rat)=x*((x.den:Int):Rat):=by
  conv=>rhs;rw[<-h]
  grind
 exact_mod_cast h1
end
section
open Go.RowKit Go.Shelf Lib Str Limb
attribute [local go_sem] Oper.semAt_some
theorem z4v {q:Rat} {k:Nat} (h:sz q k):sz (q* -1) k:=by
 rw[Rat.mul_neg,Rat.mul_one];exact⟨by rw[show(-q).num= -q.num from rfl,Int.natAbs_neg];exact h.1,h.2⟩
theorem zvn {l:List (Rat×Nat)} (h:SdOk l):SdOk (sclL l (-1)):=zpk h (by decide) λt ht=>z4v (h.trm t ht).sc
theorem z4w (v1 v2:Value) (l1 l2:List (Rat×Nat)) (ok1:SdOk l1) (ok2:SdOk l2) (hlen:l1.length+l2.length<=12) (w:zA) (HW:Hid (∀W,qL w W->Wd W)) (HP:Hid (∀W,qL w W->Pw W)) (h1:SdL v1 l1 w) (h2:SdL v2 l2 w):
 zC zF 19 #[v1,v2] w (MkOut (mkG (l1++l2)) w):=by
 obtain⟨p1,n1,c1,e1⟩:=h1.any;obtain⟨p2,n2,c2,e2⟩:=h2.any;exact z0n v1 v2 (λv W=>SdL v (l1++l2) W) (λv r W=>MkR (mkG (l1++l2)) v r W) w
  (hid (z6g v1 v2 (λW=>qL w W) (λW W' h h'=>h.trans (h'.mono h.size)) (hid λW hW=>zbh v1 l1 ok1 W (HW.out W hW) (HP.out W hW) (h1.below hW)) (hid λW hW=>zbh v2 l2 ok2 W (HW.out W hW) (HP.out W hW) (h2.below hW)) w (zM _ _)))
  (hid λW b hW k0 k1=>zj8 b v1 v2 l1 l2 (by omega) W (h1.below hW) (h2.below hW) k0 k1)
  (hid λW v hW hv=>z23 (l1++l2) (zz7 ok1 ok2 hlen) v W (hid λV hV=>HW.out V (hW.trans (hV.mono hW.size))) (hid λV hV=>HP.out V (hW.trans (hV.mono hW.size))) hv)
  p1 p2 n1 n2 c1 c2 e1 e2 (hid λv W h=>h.any)
theorem z6n (v1 v2:Value) (l1 l2:List (Rat×Nat)) (ok1:SdOk l1) (ok2:SdOk l2) (hlen:l1.length+l2.length<=12) (w:zA) (HW:Hid (∀W,qL w W->Wd W)) (HP:Hid (∀W,qL w W->Pw W)) (h1:SdL v1 l1 w) (h2:SdL v2 l2 w):
 zC zF 61 #[v1,v2] w (MkOut (mkG (l1++sclL l2 (-1))) w):=by
 obtain⟨p1,c1,e1, -⟩:=h1.slice;obtain⟨p2,c2,e2, -⟩:=h2.slice;have hl2:(sclL l2 (-1)).length=l2.length:=by simp[sclL]
 subst e1;subst e2;exact z0o p1 p2 l1.length l2.length c1 c2 (l1++sclL l2 (-1)).length (λq d W=>SdL (.slice q l2.length d) (sclL l2 (-1)) W) (λq d W=>SdL (.slice q (l1++sclL l2 (-1)).length d) (l1++sclL l2 (-1)) W) (λv r W=>MkR (mkG (l1++sclL l2 (-1))) v r W) w
  (hid (z6g _ _ (λW=>qL w W) (λW W' h h'=>h.trans (h'.mono h.size)) (hid λW hW=>zbh _ l1 ok1 W (HW.out W hW) (HP.out W hW) (h1.below hW)) (hid λW hW=>zbh _ l2 ok2 W (HW.out W hW) (HP.out W hW) (h2.below hW)) w (zM _ _)))
  (hid λW hW=>by
    have:=zkb _ l2 (-1) (by omega) (λt ht=>(ok2.trm t ht).sc.mono (by omega)) (zb7.2.2.2.2.1.mono (by omega)) W (hid λV hV=>HW.out V (hW.trans (hV.mono hW.size))) (h2.below hW);rw[show St (numS (-1))=.string ⟨#[45,49]⟩ by rw[nm_1]] at this;refine this.mono λe w' ⟨v',e1,hb,hv'⟩=>?_;obtain⟨q,d,e2, -⟩:=hv'.slice;rw[hl2] at e2;subst e2;exact⟨q,d,e1,hb,hv'⟩)
  (hid λW q d b hW hb hR k0 k1=>by
    obtain⟨W0,hB0,hR0,hBW⟩:=hR;refine(zj8 b _ _ l1 (sclL l2 (-1)) (by omega) W (h1.below hW) (hR0.below hBW) k0 k1).mono λe w' ⟨v,e1,hb',hv'⟩=>?_;obtain⟨q',d',e2, -⟩:=hv'.slice;subst e2;exact⟨q',d',e1,hb',hv'⟩)
  (hid λW q d hW hv=>z23 _ (zz7 ok1 (zvn ok2) (by omega)) _ W (hid λV hV=>HW.out V (hW.trans (hV.mono hW.size))) (hid λV hV=>HP.out V (hW.trans (hV.mono hW.size))) hv)
theorem zr3:∀{l:List (Rat×Nat)},(∀i t u,l[i]? =some t->l[i+1]? =some u->t.2<u.2)->IncS l
 |[],_=>List.Pairwise.nil
 |[t],_=>List.pairwise_singleton _ _
 |t::u::l,h=>by
  have h1:IncS (u::l):=zr3 λi a b ha hb=>h (i+1) a b (by simpa using ha) (by simpa using hb);have h2:=h 0 t u rfl rfl;refine List.pairwise_cons.2 ⟨λc hc=>?_,h1⟩;rcases List.mem_cons.1 hc with rfl|hc
  ·exact h2
  ·have:=(List.pairwise_cons.1 h1).1 c hc;omega
theorem zt2 {T:List (Rat×Nat)} (h:ULs T):T.foldl gaG []=T:=by
 have:=zyd (r:=[]) h T.length (zN _);rw[yH,zuk,List.take_length] at this;exact this
theorem zr6 {l:List (Rat×Nat)} (h:SdOk l) {c:Rat} (hc:c≠0) (hl:l.length<=12) (hs:∀t∈l,sz (t.1*c) 140):MkGT (sclL l c)/\mkG (sclL l c)=sclL l c:=by
 have at_:∀{i:Nat} {t:Rat×Nat},(sclL l c)[i]? =some t->∃u,l[i]? =some u/\t=(u.1*c,u.2):=λhi=>by
  unfold sclL at hi;rw[List.getElem?_map,Option.map_eq_some_iff] at hi;obtain⟨u,h1,h2⟩:=hi;exact⟨u,h1,h2.symm⟩
 have mem:∀{t:Rat×Nat},t∈sclL l c->∃u∈l,t=(u.1*c,u.2):=λht=>by
  obtain⟨u,h1,h2⟩:=List.mem_map.1 ht;exact⟨u,h1,h2.symm⟩
 have hu:ULs (sclL l c):=λi k t u hik ht hk=>by
  obtain⟨a,ha,rfl⟩:=at_ ht;obtain⟨b,hb,rfl⟩:=at_ hk;exact h.uls i k a b hik ha hb
 have hn:∀t∈sclL l c,t.1≠0:=λt ht=>by
  obtain⟨u,hu,rfl⟩:=mem ht;have:=(h.trm u hu).ne;intro e;rcases Rat.mul_eq_zero.1 e with e|e
  ·exact this e
  ·exact hc e
 have hp:PosR (sclL l c):=λt ht=>by
  obtain⟨u,hu,rfl⟩:=mem ht;exact h.pos u hu
 have hi:IncS (sclL l c):=zr3 λi t u ht hk=>by
  obtain⟨a,ha,rfl⟩:=at_ ht;obtain⟨b,hb,rfl⟩:=at_ hk;exact h.inc i a b ha hb
 have hk:keG (sclL l c)=sclL l c:=by
  unfold keG;rw[zt2 hu];exact List.filter_eq_self.2 λt ht=>by simp[hn t ht]
 have all:∀i,i<=(sclL l c).length->∀c'∈grG (sclL l c) i,sz c'.1 140:=λi hi c' hc'=>by
  have:=zyd (r:=[]) hu i hi;rw[yH] at this;rw[this] at hc';obtain⟨u,hu,rfl⟩:=mem (List.mem_of_mem_take hc');exact hs u hu
 refine⟨⟨by simp[sclL,hl],hn,λt ht=>?_,λt ht=>?_,λi hi=>all i (zT hi),λc' hc'=>(all _ (zN _) c' hc').mono (by omega)⟩,?_⟩
 ·obtain⟨u,hu,rfl⟩:=mem ht;exact hs u hu
 ·obtain⟨u,hu,rfl⟩:=mem ht;exact(h.trm u hu).nr
 ·have hd:=z1u hp
  unfold mkG;rw[hk] at hd⊢;exact z1q (zxo hd) hi λc=>zvb c _
theorem zeu (v:Value) (l:List (Rat×Nat)) (c:Rat) (h:SdOk l) (hl:l.length<=12) (hc:sz c 150) (hs:∀t∈l,sz (t.1*c) 140) (w:zA) (HW:Hid (∀W,qL w W->Wd W)) (HP:Hid (∀W,qL w W->Pw W)) (hv:SdL v l w):
 zC zF 20 #[v,St (numS c)] w (MkOut (sclR l c) w):=by
 obtain⟨p1,n1,c1,e1⟩:=hv.any;refine zlb v (numS c) (λv W=>SdL v (sclL l c) W) (λv r W=>MkR (sclR l c) v r W) w
  (hid (zbh v l h w (HW.out w (zM _ _)) (HP.out w (zM _ _)) hv))
  (hid λW hW=>zfj c (zd0 (by omega) (by omega) hc) W (HW.out W hW))
  (hid λW hW=>zkb v l c (by have:=h.len;omega) (λt ht=>(h.trm t ht).sc.mono (by omega)) hc W (hid λV hV=>HW.out V (hW.trans (hV.mono hW.size))) (hv.below hW))
  (hid λW v' hW hv'=>?_) p1 n1 c1 e1 (hid λv W h=>h.any)
 have HW':Hid (∀V,qL W V->Wd V):=hid λV hV=>HW.out V (hW.trans (hV.mono hW.size));have HP':Hid (∀V,qL W V->Pw V):=hid λV hV=>HP.out V (hW.trans (hV.mono hW.size));by_cases e:c=0
 ·have hr:sclR l c=[]:=by unfold sclR;rw[if_pos e]
  rw[hr];refine(zjg (sclL l c) (by have:=h.len;simp[sclL];omega) (λt ht=>?_) (λt ht=>?_) v' W HW' hv').mono λe' w' ⟨u,h1,h2,h3⟩=>?_
  ·obtain⟨u,hu,rfl⟩:=List.mem_map.1 ht
   show u.1*c=0;rw[e,Rat.mul_zero]
  ·obtain⟨u,hu,rfl⟩:=List.mem_map.1 ht
   exact(h.trm u hu).nr
  ·obtain⟨q,n,k,rfl⟩:=h3.any
   exact⟨q,n,k,0,h1,h2,.inl ⟨rfl,h3,λc hc=>by cases hc⟩⟩
 ·have hr:sclR l c=sclL l c:=by unfold sclR;rw[if_neg e]
  obtain⟨hT,hm⟩:=zr6 h e hl hs;rw[hr,<-hm];have hv2:SdL v' (sclL l c) W:=hv';exact z23 (sclL l c) hT v' W HW' HP' hv2
def rs (q:Rat):List (Rat×Nat):=if q=0 then[] else[(q,1)]
theorem zbc:rs 0=[]:=by unfold rs;rw[if_pos rfl]
theorem za5 {q:Rat} (h:q≠0):rs q=[(q,1)]:=by unfold rs;rw[if_neg h]
theorem zbz {q:Rat} (h:sz q 60):SdOk (rs q):=by
 unfold rs;split
 ·exact SdOk.nil
 ·exact SdOk.one ⟨by assumption,h,zyl.1⟩
theorem zh5 {q:Rat} {t:Rat×Nat} (h:t∈rs q):t=(q,1)/\q≠0:=by
 unfold rs at h;split at h
 ·cases h
 ·simp at h;exact⟨h,by assumption⟩
theorem zlg (a:Rat) {c:Rat} (hc:c≠0):sclL (rs a) c=rs (a*c):=by
 by_cases h:a=0
 ·rw[h,Rat.zero_mul,zbc];rfl
 ·rw[za5 h,za5 (λe=>by rcases Rat.mul_eq_zero.1 e with e|e;exact h e;exact hc e)];rfl
theorem zqb (a c:Rat):sclR (rs a) c=rs (a*c):=by
 unfold sclR;split
 ·rename_i h;rw[h,Rat.mul_zero,zbc]
 ·rename_i h;exact zlg a h
theorem zqc (a b:Rat):gaG [(a,1)] (b,1)=[(a+b,1)]:=by
 have h1:z5c ((1:Nat):Rat) ((1:Nat):Rat)=true:=by decide+kernel
 have h2:rt (((1:Nat):Rat)/((1:Nat):Rat))=1:=by decide+kernel
 show(if z5c ((1:Nat):Rat) ((1:Nat):Rat)=true then[plG (a,1) (b,1)] else _)=_;rw[if_pos h1];unfold plG;rw[if_neg (by simp)];show[(a+b*rt (((1:Nat):Rat)/((1:Nat):Rat)),1)]=_;rw[h2,Rat.mul_one]
theorem zh8 (a b:Rat):mkG (rs a++rs b)=rs (a+b):=by
 have h2:∀(T:List (Rat×Nat)) (q:Rat),T.foldl gaG []=[(q,1)]->mkG T=rs q:=λT q h=>by
  unfold mkG keG;rw[h];by_cases hq:q=0
  ·rw[hq,zbc];simp[srtS]
  ·rw[za5 hq];simp[hq,srtS,insS]
 by_cases ha:a=0
 ·by_cases hb:b=0
  ·rw[ha,hb,Rat.add_zero,zbc];rfl
  ·rw[ha,zbc,Rat.zero_add];exact h2 _ b (by rw[za5 hb];rfl)
 ·by_cases hb:b=0
  ·rw[hb,zbc,Rat.add_zero,yH];exact h2 _ a (by rw[za5 ha];rfl)
  ·rw[za5 ha,za5 hb];exact h2 _ (a+b) (zqc a b)
theorem zcz (q:Rat):(rs q).length<=1:=by unfold rs;split<;>simp
theorem zhq {q:Rat} (h:sz q 60):∀t∈rs q,sz t.1 60:=λt ht=>by obtain⟨rfl,_⟩:=zh5 ht;exact h
theorem zrz (v1 v2:Value) (a b:Rat) (ha:sz a 60) (hb:sz b 60) (hab:sz (a-b) 60) (w:zA) (HW:Hid (∀W,qL w W->Wd W)) (HP:Hid (∀W,qL w W->Pw W)) (h1:SdL v1 (rs a) w) (h2:SdL v2 (rs b) w):
 zC zF 61 #[v1,v2] w λe w'=>∃v,e=.returned (.tuple #[v,.int .i64 0])/\zB w.heap.size w w'/\SdL v (rs (a-b)) w':=by
 have:=z6n v1 v2 (rs a) (rs b) (zbz ha) (zbz hb) (by have:=zcz a;have:=zcz b;omega) w HW HP h1 h2;rw[zlg b (by decide),zh8,show a+b* -1=a-b by grind] at this;exact this.mono λe w' h=>h.ok (zhq hab)
theorem ziy (v:Value) (a c:Rat) (ha:sz a 60) (hc:sz c 150) (hac:sz (a*c) 60) (w:zA) (HW:Hid (∀W,qL w W->Wd W)) (HP:Hid (∀W,qL w W->Pw W)) (h:SdL v (rs a) w):
 zC zF 20 #[v,St (numS c)] w λe w'=>∃v',e=.returned (.tuple #[v',.int .i64 0])/\zB w.heap.size w w'/\SdL v' (rs (a*c)) w':=by
 have:=zeu v (rs a) c (zbz ha) (by have:=zcz a;omega) hc (λt ht=>by obtain⟨rfl,_⟩:=zh5 ht;exact hac.mono (by omega)) w HW HP h;rw[zqb] at this;exact this.mono λe w' h=>h.ok (zhq hac)
theorem zlh (v:Value) (a:Rat) (ha:sz a 60) (w:zA) (HW:Hid (∀W,qL w W->Wd W)) (HP:Hid (∀W,qL w W->Pw W)) (h:SdL v [(a,1)] w):
 zC zF 13 #[v] w λe w'=>∃v',e=.returned (.tuple #[v',.int .i64 0])/\zB w.heap.size w w'/\SdL v' (rs a) w':=by
 by_cases e:a=0
 ·subst e
  rw[zbc];exact zjg [(0,1)] (by simp) (λt ht=>by simp at ht;rw[ht]) (λt ht=>by simp at ht;rw[ht];exact zyl.1) v w HW h
 ·have h2:[(a,1)]=rs a++rs 0:=by rw[zbc,za5 e];rfl
  rw[h2] at h;have:=z23 (rs a++rs 0) (zz7 (zbz ha) (zbz (zd2 60 (by omega))) (by have:=zcz a;have:=zcz 0;omega)) v w HW HP h;rw[zh8,Rat.add_zero] at this;exact this.mono λe w' h=>h.ok (zhq ha)
theorem zkl (p:Option Addr) (cap:Nat) (w:zA):
 qJ 62 #[.slice p 0 cap] w (.tuple #[.int .i64 0,.int .i64 0]):=by
 go_enter Tryz.func62,Tryz.ntmps62;go_wp21;go_ret2;exact⟨rfl,zM _ _⟩
theorem zff (p:Option Addr) (n cap:Nat) (s e0:Int) (w:zA)
 (K:Hid (qJ 70 #[.slice p n cap] w (.int .i64 0)))
 (S:Hid (∀W:zA,qL w W->qJ 62 #[.slice p n cap] W (.tuple #[.int .i64 s,.int .i64 e0]))):
 qJ 17 #[.slice p n cap] w (.tuple #[.int .i64 s,.int .i64 e0]):=by
 go_enter Tryz.func17,Tryz.ntmps17;go_wp21;refine zzM K.out λw1 hb1=>?_;have B1:=hid hb1;have HS:=hid (S.out w1 hb1);clear hb1 S;go_wp21;refine zzM HS.out λw2 hb2=>?_;have B2:=hid (B1.out.trans (hb2.mono B1.out.size));clear hb2;go_wp21;go_ret2;exact⟨rfl,B2.out⟩
theorem zor {Z:Nat->Int} (h:∀k,k<3->0<=Z k) (h2:0<Z 2):sgnP 1 Z=1:=by
 have r:∀k,0<=Z k->zap 1 k (Z k)=1\/zap 1 k (Z k)=0:=λk hk=>by
  unfold zap;split
  ·exact .inl rfl
  ·right;rw[if_neg (by omega)]
 have s2:zap 1 2 (Z 2)=1:=by unfold zap;rw[if_pos h2]
 unfold sgnP;rcases r 0 (h 0 (by omega)) with s0|s0<;>rcases r 1 (h 1 (by omega)) with s1|s1<;>simp[s0,s1,s2]
theorem zo6 {Z:Nat->Int} (h:∀k,k<3->Z k<= -1):sgnP 1 Z= -1:=by
 have r:∀k,Z k<= -1->zap 1 k (Z k)= -1\/zap 1 k (Z k)=0:=λk hk=>by
  unfold zap;rw[if_neg (by omega)];split
  ·exact .inl rfl
  ·exact .inr rfl
 have s2:zap 1 2 (Z 2)= -1:=by
  have:=h 2 (by omega);unfold zap;rw[if_neg (by omega),if_pos (by omega)]
 unfold sgnP;rcases r 0 (h 0 (by omega)) with s0|s0<;>rcases r 1 (h 1 (by omega)) with s1|s1<;>simp[s0,s1,s2]
def flq (q:Rat) (k:Nat):Int:=floT q (q.num.natAbs*10^plN k) (q.num.natAbs*q.num.natAbs*1*10^(2*plN k))
theorem zn3 (k:Nat):plN k<=64:=by
 match k with
 |0=>decide
 |1=>decide
 |_+2=>exact zN _
theorem zo9 (q:Rat) (h:sz q 60):(0<q->(∀k,k<3->0<=flq q k)/\0<flq q 2)/\(q<0->∀k,k<3->flq q k<= -1):=by
 constructor
 ·intro hq
  have hn:¬q.num<0:=by have:=Rat.num_nonneg.2 (Rat.le_of_lt hq);omega
  have hn0:0<q.num.natAbs:=by
   have:q.num≠0:=λe=>by have:=Rat.num_eq_zero.1 e;grind
   omega
  have e:∀k,flq q k=((q.num.natAbs*10^plN k/q.den:Nat):Int):=λk=>by unfold flq floT;rw[if_neg hn]
  refine⟨λk _=>by rw[e];exact Int.natCast_nonneg _,?_⟩;rw[e];have h1:q.den<=q.num.natAbs*10^plN 2:=by
   have h2:q.den<10^60:=h.2;have h3:(10:Nat)^60<=10^plN 2:=yF (by omega) (by decide);have h4:10^plN 2<=q.num.natAbs*10^plN 2:=Nat.le_mul_of_pos_left _ hn0;omega
  have:=Nat.div_pos h1 q.den_pos;omega
 ·intro hq k _
  have hn:q.num<0:=by
   rcases Int.lt_or_le q.num 0 with h|h
   ·exact h
   ·have:=Rat.num_nonneg.1 h;grind
  have hs:0<q.num.natAbs*10^plN k:=Nat.mul_pos (by omega) (yS (by simp));unfold flq floT;rw[if_pos hn];generalize q.num.natAbs*10^plN k=s at*
  split
  ·rename_i hd
   have:q.den<=s:=Nat.le_of_dvd hs (Nat.dvd_of_mod_eq_zero hd.2);have:=Nat.div_pos this q.den_pos;generalize s/q.den=x at*
   omega
  ·generalize s/q.den=x at*
   omega
theorem zli (v:Value) (q:Rat) (h:sz q 60) (w:zA) (hw:Wd w) (hp:Spw w) (hv:SdL v (rs q) w):
 qJ 62 #[v] w (.tuple #[.int .i64 (Geo.cmpR q 0),.int .i64 0]):=by
 obtain⟨p,cap,rfl, -,hx⟩:=hv.slice;by_cases h0:q=0
 ·subst h0
  rw[show(rs 0).length=0 by rw[zbc];rfl,show Geo.cmpR 0 0=0 by simp[Geo.cmpR]];exact zkl p cap w
 have hl:(rs q).length=1:=by rw[za5 h0];rfl
 rw[hl];have z48:itoa 0=[48]:=zb9;have z49:itoa 1=[49]:=by rw[show(1:Int)=((1:Nat):Int) from rfl,Str.zad,zae (by omega)];rfl
 have hsb:∀k,q.num.natAbs*10^plN k<10^124:=λk=>by
  have h1:=h.1;have h2:(10:Nat)^plN k<=10^64:=yF (by omega) (zn3 k)
  calc q.num.natAbs*10^plN k<10^60*10^plN k:=Nat.mul_lt_mul_of_pos_right h1 (yS (by simp))
   _<=10^60*10^64:=Nat.mul_le_mul_left _ h2
   _=10^124:=by rw[<-Nat.pow_add]
 have hfb:∀k,(flq q k).natAbs<=10^124:=λk=>by
  have hs:=hsb k;have hd:=Nat.div_le_self (q.num.natAbs*10^plN k) q.den;unfold flq floT;generalize q.num.natAbs*10^plN k/q.den=x at*
  split
  ·rw[Int.natAbs_neg,Int.natAbs_natCast]
   split<;>omega
  ·rw[Int.natAbs_natCast]
   omega
 have dz:∀z:Int,z.natAbs<=10^124+2->digs z<=300:=λz hz=>by
  have p1:(10:Nat)^124+2<10^125:=by decide+kernel
  exact zO (zhd (k:=125) (by omega) (by omega)) (by omega)
 have hsq:∀k,q.num.natAbs*10^plN k*(q.num.natAbs*10^plN k)=q.num.natAbs*q.num.natAbs*1*10^(2*plN k):=λk=>by
  rw[Nat.mul_one,Nat.two_mul,Nat.pow_add];ac_rfl
 have hall:=zj5 p cap 1 (by omega) (by omega) (λ_=>numS q) (λ_=>zD 1) (λk _=>flq q k) (λk i=>if i=0 then 0 else flq q k) (hid λk=>rfl)
  (hid λk i hk hi W hW=>by
    have hN:q.num.natAbs*q.num.natAbs*1*10^(2*plN k)<10^248:=by
     rw[<-hsq k];exact zcc (hsb k) (hsb k)
    exact zul q 1 (plN k) (q.num.natAbs*10^plN k) _ (zd0 (by omega) (by omega) h) h0 (by omega) (by have:=zn3 k;omega) rfl (zO (zil (by omega) hN) (by omega)) ⟨Nat.le_of_eq (hsq k),by rw[<-hsq k];exact Nat.mul_lt_mul_of_lt_of_lt (by omega) (by omega)⟩ W hW)
  (hid λk i hk hi W hW=>by
    obtain rfl:i=0:=by omega
    have hf:=hfb k;have:=zva 0 (flq q k) (dz _ (by omega)) (dz _ (by omega)) (dz _ (by omega)) W hW;rw[Int.zero_add] at this;exact this)
  (hid λk j hk hj W hW=>by
    obtain rfl:j=0:=by omega
    have hf:=hfb k;have:=zva (flq q k) 1 (dz _ (by omega)) (dz _ (by omega)) (dz _ (by omega)) W hW;rw[z49] at this;show zC _ _ #[St (itoa (flq q k+0)),_] _ _;rw[Int.add_zero];exact this)
  (hid λk j hk hj W hW=>by
    have hf:=hfb k;have:=zsx (flq q k+(j:Int)) 0 (dz _ (by omega)) (dz _ (by omega)) W;rw[z48] at this;exact this) w (hid hw) (hid hp)
  (hid λi hi=>by
    obtain rfl:i=0:=by omega
    exact hx 0 (q,1) (by rw[za5 h0];rfl))
 have hsg:(sgnP 1 λk=>if(1:Nat)=0 then 0 else flq q k)=Geo.cmpR q 0:=by
  obtain⟨f1,f2⟩:=zo9 q h;have:=Geo.zaw q 0;rcases(show q<0\/0<q by grind) with c|c
  ·have e:Geo.cmpR q 0= -1:=by grind
   rw[e];exact zo6 λk hk=>f2 c k hk
  ·have e:Geo.cmpR q 0=1:=by grind
   rw[e];exact zor (λk hk=>(f1 c).1 k hk) (f1 c).2
 rw[hsg] at hall;have he:errP (Geo.cmpR q 0)=0:=by
  have:=Geo.zaw q 0;unfold errP;rw[if_neg (by grind)]
 rw[he] at hall;exact hall
theorem zpc (v:Value) (q:Rat) (h:sz q 60) (w:zA) (HW:Hid (∀W,qL w W->Wd W)) (HP:Hid (∀W,qL w W->Pw W)) (HS:Hid (∀W,qL w W->Spw W)) (hv:SdL v (rs q) w):
 qJ 17 #[v] w (.tuple #[.int .i64 (Geo.cmpR q 0),.int .i64 0]):=by
 obtain⟨p,cap,e, -⟩:=hv.slice;subst e;exact zff p _ cap _ 0 w (hid (zbh _ (rs q) (zbz h) w (HW.out w (zM _ _)) (HP.out w (zM _ _)) hv)) (hid λW hW=>zli _ q h W (HW.out W hW) (HS.out W hW) (hv.below hW))
def trN (t:Rat×Nat) (p:Nat):Nat:=t.1.num.natAbs*t.1.num.natAbs*t.2*10^(2*p)
def flT (t:Rat×Nat) (p:Nat):Int:=floT t.1 (isq (trN t p)) (trN t p)
def valZ:List (Rat×Nat)->Nat->Int
 |[],_=>0
 |t::l,p=>flT t p+valZ l p
theorem zrt (p:Nat):∀l m:List (Rat×Nat),valZ (l++m) p=valZ l p+valZ m p
 |[],m=>by simp[valZ]
 |t::l,m=>by
  rw[List.cons_append];show flT t p+valZ (l++m) p=flT t p+valZ l p+valZ m p;rw[zrt p l m];omega
theorem znz {l:List (Rat×Nat)} {i:Nat} {t:Rat×Nat} (h:l[i]? =some t) (p:Nat):valZ (l.take (i+1)) p=valZ (l.take i) p+flT t p:=by
 rw[List.take_add_one,h,zrt];show _+(flT t p+0)=_;omega
def sgnL (l:List (Rat×Nat)):Int:=if l=[] then 0 else sgnP l.length λk=>valZ l (plN k)
def sgeL (l:List (Rat×Nat)):Int:=if l=[] then 0 else errP (sgnL l)
theorem zvi {t:Rat×Nat} (h:TrmR t.1 t.2) (k:Nat):trN t (plN k)<10^134*10^134:=by
 have h1:=h.sc.1;have h2:t.2<10^20:=(zaf _ _ (by omega)).1 h.nr.len;have h3:(10:Nat)^(2*plN k)<=10^128:=yF (by omega) (by have:=zn3 k;omega);have h4:t.1.num.natAbs*t.1.num.natAbs*t.2<10^140:=zcc (i:=120) (j:=20) (zcc (i:=60) (j:=60) h1 h1) h2;unfold trN
 calc _<10^140*10^(2*plN k):=Nat.mul_lt_mul_of_pos_right h4 (yS (by simp))
  _<=10^140*10^128:=Nat.mul_le_mul_left _ h3
  _=10^134*10^134:=by decide+kernel
theorem zz9 {n:Nat} (h:n<10^134*10^134):isq n<10^134:=Nat.mul_self_lt_mul_self_iff.1 (Nat.lt_of_le_of_lt (zv0 n).1 h)
theorem zzb {t:Rat×Nat} (h:TrmR t.1 t.2) (k:Nat):(zD (trN t (plN k))).length<=290:=by
 have:(10:Nat)^134*10^134<=10^290:=by decide+kernel
 exact zil (by omega) (zS (zvi h k) this)
theorem zvj {t:Rat×Nat} (h:TrmR t.1 t.2) (k:Nat):(flT t (plN k)).natAbs<=10^134:=by
 have hs:=zz9 (zvi h k);have hd:=Nat.div_le_self (isq (trN t (plN k))) t.1.den;unfold flT floT;generalize isq (trN t (plN k))/t.1.den=x at*
 split
 ·rw[Int.natAbs_neg,Int.natAbs_natCast]
  split<;>omega
 ·rw[Int.natAbs_natCast]
  omega
theorem zzd {l:List (Rat×Nat)} (h:∀t∈l,TrmR t.1 t.2) (k:Nat):(valZ l (plN k)).natAbs<=l.length*10^134:=by
 induction l with
 |nil=>simp[valZ]
 |cons t l ih=>
  have h1:=zvj (h t (List.mem_cons_self ..)) k;have h2:=ih λu hu=>h u (List.mem_cons_of_mem _ hu);show(flT t (plN k)+valZ l (plN k)).natAbs<=(l.length+1)*10^134;rw[Nat.add_mul,Nat.one_mul];omega
theorem z0a (v:Value) (l:List (Rat×Nat)) (h:SdOk l) (w:zA) (hw:Wd w) (hp:Spw w) (hv:SdL v l w):
 qJ 62 #[v] w (.tuple #[.int .i64 (sgnL l),.int .i64 (sgeL l)]):=by
 obtain⟨p,cap,rfl, -,hx⟩:=hv.slice;by_cases h0:l=[]
 ·subst h0
  exact zkl p cap w
 have hl0:0<l.length:=List.length_pos_iff.2 h0;have hl:=h.len;rw[show sgeL l=errP (sgnL l) from if_neg h0,show sgnL l=sgnP l.length λk=>valZ l (plN k) from if_neg h0];have z48:itoa 0=[48]:=zb9;have z49:itoa 1=[49]:=by rw[show(1:Int)=((1:Nat):Int) from rfl,Str.zad,zae (by omega)];rfl
 have dz:∀z:Int,z.natAbs<=12*10^134+12->digs z<=300:=λz hz=>by
  have p1:12*(10:Nat)^134+12<10^140:=by decide+kernel
  exact zO (zhd (k:=140) (by omega) (by omega)) (by omega)
 have vb:∀(k i:Nat),(valZ (l.take i) (plN k)).natAbs<=12*10^134:=λk i=>by
  have h1:=zzd (l:=l.take i) (λt ht=>h.trm t (List.mem_of_mem_take ht)) k;have h2:(l.take i).length<=12:=by rw[List.length_take];omega
  exact zO h1 (Nat.mul_le_mul_right _ h2)
 have at_:∀i,i<l.length->∃t,l[i]? =some t:=λi hi=>⟨_,yB hi⟩;have hg:∀(i:Nat) (t:Rat×Nat),l[i]? =some t->l[i]?.getD (1,1)=t:=λi t h=>by rw[h];rfl
 have hall:=zj5 p cap l.length hl0 (by omega) (λi=>numS (l[i]?.getD (1,1)).1) (λi=>zD (l[i]?.getD (1,1)).2) (λk i=>flT (l[i]?.getD (1,1)) (plN k)) (λk i=>valZ (l.take i) (plN k)) (hid λk=>rfl)
  (hid λk i hk hi W hW=>by
    obtain⟨t,ht⟩:=at_ i hi;rw[hg i t ht];have htr:=h.trm t (List.mem_of_getElem? ht);exact zul t.1 t.2 (plN k) (isq (trN t (plN k))) (trN t (plN k)) (zd0 (by omega) (by omega) htr.sc) htr.ne htr.nr.pos (by have:=zn3 k;omega) rfl (zzb htr k) (zv0 _) W hW)
  (hid λk i hk hi W hW=>by
    obtain⟨t,ht⟩:=at_ i hi;rw[hg i t ht,znz ht];have h1:=vb k i;have h2:=vb k (i+1);rw[znz ht] at h2;have h3:=zvj (h.trm t (List.mem_of_getElem? ht)) k;exact zva _ _ (dz _ (by omega)) (dz _ (by omega)) (dz _ (by omega)) W hW)
  (hid λk j hk hj W hW=>by
    have h1:=vb k l.length;have:=zva (valZ (l.take l.length) (plN k)+(j:Int)) 1 (dz _ (by omega)) (dz _ (by omega)) (dz _ (by omega)) W hW;rw[z49,show valZ (l.take l.length) (plN k)+(j:Int)+1=valZ (l.take l.length) (plN k)+((j+1:Nat):Int) by omega] at this;exact this)
  (hid λk j hk hj W hW=>by
    have h1:=vb k l.length;have:=zsx (valZ (l.take l.length) (plN k)+(j:Int)) 0 (dz _ (by omega)) (dz _ (by omega)) W;rw[z48] at this;exact this)
  w (hid hw) (hid hp)
  (hid λi hi=>by
    obtain⟨t,ht⟩:=at_ i hi;rw[hg i t ht];exact hx i t ht)
 rw[List.take_length] at hall;exact hall
theorem zpf {a b:Nat} (h:a*a<=b*b):a<=b:=Nat.mul_self_le_mul_self_iff.1 h
theorem zx7 {a b:Nat} (h:a*a<b*b):a<b:=Nat.mul_self_lt_mul_self_iff.1 h
theorem zn0 (M d p q:Nat) (hd:0<d):
 (isq (M*10^(2*p))/d)*10^q<=(isq (M*10^(2*q))/d+(if isq (M*10^(2*q))*isq (M*10^(2*q))=M*10^(2*q)/\isq (M*10^(2*q))%d=0 then 0 else 1))*10^p/\
 (isq (M*10^(2*q))/d+(if isq (M*10^(2*q))*isq (M*10^(2*q))=M*10^(2*q)/\isq (M*10^(2*q))%d=0 then 0 else 1))*10^p<(isq (M*10^(2*p))/d+1)*10^q+10^p:=by
 obtain⟨s1,s2⟩:=zv0 (M*10^(2*p));obtain⟨r1,r2⟩:=zv0 (M*10^(2*q));generalize isq (M*10^(2*p))=s at*
 generalize isq (M*10^(2*q))=r at*
 have ep:(10:Nat)^(2*p)=10^p*10^p:=by rw[Nat.two_mul,Nat.pow_add]
 have eq:(10:Nat)^(2*q)=10^q*10^q:=by rw[Nat.two_mul,Nat.pow_add]
 rw[ep] at s1 s2;rw[eq] at r1 r2⊢;have hP:0<(10:Nat)^p:=yS (by simp);have hQ:0<(10:Nat)^q:=yS (by simp);generalize (10:Nat)^p=P at*
 generalize (10:Nat)^q=Q at*
 have a1:s/d*d<=s:=Nat.div_mul_le_self s d;have a2:s<(s/d+1)*d:=by
  have:=Nat.lt_div_mul_add hd (a:=s);rw[Nat.add_mul,Nat.one_mul];exact this
 have b1:r/d*d<=r:=Nat.div_mul_le_self r d;have b2:r<(r/d+1)*d:=by
  have:=Nat.lt_div_mul_add hd (a:=r);rw[Nat.add_mul,Nat.one_mul];exact this
 have b3:r%d=0->r/d*d=r:=λh=>Nat.div_mul_cancel (Nat.dvd_of_mod_eq_zero h);generalize s/d=x at*
 generalize r/d=y at*
 have c1:(x*d)*(x*d)<=M*(P*P):=zO (Nat.mul_le_mul a1 a1) s1;have c2:M*(P*P)<((x+1)*d)*((x+1)*d):=zS s2 (Nat.mul_le_mul a2 a2);have c3:(y*d)*(y*d)<=M*(Q*Q):=zO (Nat.mul_le_mul b1 b1) r1;have mono:∀{a b c:Nat},a<=b->a*c<=b*c:=λh=>Nat.mul_le_mul_right _ h;constructor
 ·split
  ·rename_i h
   have c4:(y*d)*(y*d)=M*(Q*Q):=by rw[b3 h.2];exact h.1
   have:(x*Q*d)*(x*Q*d)<=(y*P*d)*(y*P*d):=by
    calc (x*Q*d)*(x*Q*d)=(x*d)*(x*d)*(Q*Q):=by ac_rfl
     _<=M*(P*P)*(Q*Q):=mono c1
     _=M*(Q*Q)*(P*P):=by ac_rfl
     _=(y*d)*(y*d)*(P*P):=by rw[c4]
     _=(y*P*d)*(y*P*d):=by ac_rfl
   have:=zpf this;exact Nat.le_of_mul_le_mul_right this hd
  ·have c4:M*(Q*Q)<=((y+1)*d)*((y+1)*d):=zT (zS r2 (Nat.mul_le_mul b2 b2))
   have:(x*Q*d)*(x*Q*d)<=((y+1)*P*d)*((y+1)*P*d):=by
    calc (x*Q*d)*(x*Q*d)=(x*d)*(x*d)*(Q*Q):=by ac_rfl
     _<=M*(P*P)*(Q*Q):=mono c1
     _=M*(Q*Q)*(P*P):=by ac_rfl
     _<=((y+1)*d)*((y+1)*d)*(P*P):=mono c4
     _=((y+1)*P*d)*((y+1)*P*d):=by ac_rfl
   have:=zpf this;exact Nat.le_of_mul_le_mul_right this hd
 ·have:(y*P*d)*(y*P*d)<((x+1)*Q*d)*((x+1)*Q*d):=by
   calc (y*P*d)*(y*P*d)=(y*d)*(y*d)*(P*P):=by ac_rfl
    _<=M*(Q*Q)*(P*P):=mono c3
    _=M*(P*P)*(Q*Q):=by ac_rfl
    _<((x+1)*d)*((x+1)*d)*(Q*Q):=Nat.mul_lt_mul_of_pos_right c2 (Nat.mul_pos hQ hQ)
    _=((x+1)*Q*d)*((x+1)*Q*d):=by ac_rfl
  have:=zx7 this;have:y*P<(x+1)*Q:=Nat.lt_of_mul_lt_mul_right this;rw[Nat.add_mul];split
  ·rw[Nat.zero_mul];omega
  ·rw[Nat.one_mul];omega
theorem z0c (c:Rat):(-c).num= -c.num/\(-c).den=c.den:=⟨rfl,rfl⟩
theorem zvk (t:Rat×Nat) (hne:t.1≠0) (p q:Nat):
 flT t p*(10^q:Nat)+flT (ngT t) q*(10^p:Nat)<=0/\0<(flT t p+1)*(10^q:Nat)+(flT (ngT t) q+1)*(10^p:Nat):=by
 have hn0:t.1.num≠0:=λe=>hne (Rat.num_eq_zero.1 e);have hd:=t.1.den_pos;obtain⟨n1,n2⟩:=z0c t.1;have hM:trN (ngT t) q=t.1.num.natAbs*t.1.num.natAbs*t.2*10^(2*q):=by
  show(-t.1).num.natAbs*(-t.1).num.natAbs*t.2*10^(2*q)=_;rw[n1,Int.natAbs_neg]
 have hM0:trN t p=t.1.num.natAbs*t.1.num.natAbs*t.2*10^(2*p):=rfl;unfold flT floT;rw[hM,hM0,show(ngT t).1= -t.1 from rfl,n1,n2];generalize t.1.num.natAbs*t.1.num.natAbs*t.2=M;by_cases hs:t.1.num<0
 ·rw[if_pos hs,if_neg (show ¬ -t.1.num<0 by omega)]
  obtain⟨f1,f2⟩:=zn0 M t.1.den q p hd;generalize isq (M*10^(2*q))/t.1.den=x at*
  generalize (isq (M*10^(2*p))/t.1.den+if isq (M*10^(2*p))*isq (M*10^(2*p))=M*10^(2*p)/\isq (M*10^(2*p))%t.1.den=0 then 0 else 1)=y at*
  generalize (10:Nat)^p=P at*
  generalize (10:Nat)^q=Q at*
  have g1:((x*P:Nat):Int)<=((y*Q:Nat):Int):=by exact_mod_cast f1
  have g2:((y*Q:Nat):Int)<(((x+1)*P+Q:Nat):Int):=by exact_mod_cast f2
  simp only[Int.natCast_mul,Int.natCast_add,Int.natCast_one] at g1 g2;rw[Int.neg_mul,Int.add_mul,Int.add_mul,Int.neg_mul];rw[Int.add_mul] at g2;simp only[Int.one_mul] at*
  omega
 ·rw[if_neg hs,if_pos (show-t.1.num<0 by have:=hn0;omega)]
  obtain⟨f1,f2⟩:=zn0 M t.1.den p q hd;generalize isq (M*10^(2*p))/t.1.den=x at*
  generalize (isq (M*10^(2*q))/t.1.den+if isq (M*10^(2*q))*isq (M*10^(2*q))=M*10^(2*q)/\isq (M*10^(2*q))%t.1.den=0 then 0 else 1)=y at*
  generalize (10:Nat)^p=P at*
  generalize (10:Nat)^q=Q at*
  have g1:((x*Q:Nat):Int)<=((y*P:Nat):Int):=by exact_mod_cast f1
  have g2:((y*P:Nat):Int)<(((x+1)*Q+P:Nat):Int):=by exact_mod_cast f2
  simp only[Int.natCast_mul,Int.natCast_add,Int.natCast_one] at g1 g2;rw[Int.neg_mul,Int.add_mul,Int.add_mul,Int.neg_mul];rw[Int.add_mul] at g2;simp only[Int.one_mul] at*
  omega
theorem zg3 (n:Nat) (Z:Nat->Int):(sgnP n Z=1/\∃k,0<Z k)\/(sgnP n Z= -1/\∃k,Z k+n<=0)\/sgnP n Z=0:=by
 have r:∀k,(zap n k (Z k)=1/\0<Z k)\/(zap n k (Z k)= -1/\Z k+n<=0)\/zap n k (Z k)=0:=λk=>by
  unfold zap;split
  ·exact .inl ⟨rfl,by assumption⟩
  ·split
   ·exact .inr (.inl ⟨rfl,by omega⟩)
   ·exact .inr (.inr rfl)
 unfold sgnP;split
 ·rcases r 0 with⟨h,k⟩|⟨h,k⟩|h
  ·exact .inl ⟨h,0,k⟩
  ·exact .inr (.inl ⟨h,0,k⟩)
  ·exact .inr (.inr h)
 ·split
  ·rcases r 1 with⟨h,k⟩|⟨h,k⟩|h
   ·exact .inl ⟨h,1,k⟩
   ·exact .inr (.inl ⟨h,1,k⟩)
   ·exact .inr (.inr h)
  ·rcases r 2 with⟨h,k⟩|⟨h,k⟩|h
   ·exact .inl ⟨h,2,k⟩
   ·exact .inr (.inl ⟨h,2,k⟩)
   ·exact .inr (.inr h)
end
section
open Go.RowKit Go.Shelf Lib Str Limb
def rtF (r q:Nat):Nat:=isq (r*10^(2*q))
theorem zvo {a b r s:Nat} (h:b*b*r=a*a*s) (q:Nat):a*rtF s q<=b*rtF r q+b/\b*rtF r q<=a*rtF s q+a:=by
 obtain⟨r1,r2⟩:=zv0 (r*10^(2*q));obtain⟨s1,s2⟩:=zv0 (s*10^(2*q));unfold rtF;generalize isq (r*10^(2*q))=x at*
 generalize isq (s*10^(2*q))=y at*
 generalize 10^(2*q)=M at*
 have e:b*b*(r*M)=a*a*(s*M):=by rw[<-Nat.mul_assoc,h,Nat.mul_assoc]
 constructor
 ·refine zpf ?_
  calc a*y*(a*y)=a*a*(y*y):=by ac_rfl
   _<=a*a*(s*M):=Nat.mul_le_mul_left _ s1
   _=b*b*(r*M):=e.symm
   _<=b*b*((x+1)*(x+1)):=Nat.mul_le_mul_left _ (zT r2)
   _=(b*x+b)*(b*x+b):=by rw[show b*x+b=b*(x+1) by rw[Nat.mul_add,Nat.mul_one]];ac_rfl
 ·refine zpf ?_
  calc b*x*(b*x)=b*b*(x*x):=by ac_rfl
   _<=b*b*(r*M):=Nat.mul_le_mul_left _ r1
   _=a*a*(s*M):=e
   _<=a*a*((y+1)*(y+1)):=Nat.mul_le_mul_left _ (zT s2)
   _=(a*y+a)*(a*y+a):=by rw[show a*y+a=a*(y+1) by rw[Nat.mul_add,Nat.mul_one]];ac_rfl
theorem zvp (n r q:Nat):n*rtF r q<=isq (n*n*r*10^(2*q))+1/\isq (n*n*r*10^(2*q))<=n*rtF r q+n:=by
 have h:=zvo (a:=n) (b:=1) (r:=n*n*r) (s:=r) (by simp) q;rw[Nat.one_mul] at h;exact h
theorem zn1 {x m d:Rat} (hd:1<=d) (hm:0<=m) (h:x*d<=m):x<=m:=by
 rcases(show x<=m\/m<x by grind) with k|k
 ·exact k
 ·have:=Rat.mul_le_mul_of_nonneg_left hd (show 0<=x by grind)
  grind
theorem ztd {c:Rat} {m d s z y:Nat} (hd:0<d) (hc:c*(d:Rat)=(m:Rat)) (h1:m*y<=s+1) (h2:s<=m*y+m) (a1:z*d<=s) (a2:s<(z+1)*d): -2<=(z:Rat)-c*(y:Rat)/\(z:Rat)-c*(y:Rat)<=(m:Rat):=by
 have hd1:(1:Rat)<=(d:Rat):=by exact_mod_cast hd
 have b1:(m:Rat)*(y:Rat)<=(s:Rat)+1:=by exact_mod_cast h1
 have b2:(s:Rat)<=(m:Rat)*(y:Rat)+(m:Rat):=by exact_mod_cast h2
 have b3:(z:Rat)*(d:Rat)<=(s:Rat):=by exact_mod_cast a1
 have b4:(s:Rat)<((z:Rat)+1)*(d:Rat):=by exact_mod_cast a2
 have b5:(0:Rat)<=(m:Rat):=by exact_mod_cast zR m
 have e:c*(y:Rat)*(d:Rat)=(m:Rat)*(y:Rat):=by rw[<-hc];grind
 generalize (m:Rat)=M at*
 generalize (d:Rat)=D at*
 generalize (s:Rat)=S at*
 generalize (z:Rat)=Z at*
 generalize (y:Rat)=Y at*
 constructor
 ·have:=zn1 (x:= -(Z-c*Y+1)) (m:=1) hd1 (by decide) (by grind)
  grind
 ·exact zn1 hd1 b5 (by grind)
theorem zvq (t:Rat×Nat) (q:Nat): -(((t.1.num.natAbs:Nat):Rat)+3)<=((flT t q:Int):Rat)-t.1*((rtF t.2 q:Nat):Rat)/\((flT t q:Int):Rat)-t.1*((rtF t.2 q:Nat):Rat)<=((t.1.num.natAbs:Nat):Rat)+3:=by
 obtain⟨c,r⟩:=t;have hd:0<c.den:=c.den_pos;have nd:=zrr c;obtain⟨h1,h2⟩:=zvp c.num.natAbs r q;have h3:c.num.natAbs*c.num.natAbs*r*10^(2*q)=trN (c,r) q:=rfl;rw[h3] at h1 h2;have b5:(0:Rat)<=((c.num.natAbs:Nat):Rat):=by exact_mod_cast zR _
 show-_<=((floT c (isq (trN (c,r) q)) (trN (c,r) q):Int):Rat)-c*((rtF r q:Nat):Rat)/\((floT c (isq (trN (c,r) q)) (trN (c,r) q):Int):Rat)-c*((rtF r q:Nat):Rat)<=_;unfold floT;have a1:isq (trN (c,r) q)/c.den*c.den<=isq (trN (c,r) q):=Nat.div_mul_le_self _ _;have a2:isq (trN (c,r) q)<(isq (trN (c,r) q)/c.den+1)*c.den:=by
  have:=Nat.lt_div_mul_add hd (a:=isq (trN (c,r) q));rw[Nat.add_mul,Nat.one_mul];exact this
 by_cases hn:c.num<0
 ·rw[if_pos hn]
  have e: -c*(c.den:Rat)=((c.num.natAbs:Nat):Rat):=by
   have e1:((c.num.natAbs:Nat):Int)= -c.num:=by omega
   have e2:((c.num.natAbs:Nat):Rat)=((-c.num:Int):Rat):=by rw[<-e1];rfl
   rw[e2,Rat.intCast_neg,nd];grind
  have k:=ztd (c:= -c) hd e h1 h2 a1 a2;generalize isq (trN (c,r) q)/c.den=z at*
  have h01:∃ε:Nat,ε<=1/\(if isq (trN (c,r) q)*isq (trN (c,r) q)=trN (c,r) q/\isq (trN (c,r) q)%c.den=0 then 0 else 1)=ε:=by split;exact⟨0,by omega,rfl⟩;exact⟨1,by omega,rfl⟩
  obtain⟨ε,he,hε⟩:=h01;rw[hε,Rat.intCast_neg,Rat.intCast_natCast,Rat.natCast_add];have he1:(ε:Rat)<=1:=by exact_mod_cast he
  have he0:(0:Rat)<=(ε:Rat):=by exact_mod_cast zR ε
  generalize (ε:Rat)=E at*
  constructor<;>grind
 ·rw[if_neg hn]
  have e:c*(c.den:Rat)=((c.num.natAbs:Nat):Rat):=by
   have e1:((c.num.natAbs:Nat):Int)=c.num:=by omega
   have e2:((c.num.natAbs:Nat):Rat)=((c.num:Int):Rat):=by rw[<-e1];rfl
   rw[e2,nd]
  have k:=ztd hd e h1 h2 a1 a2;rw[Rat.intCast_natCast];constructor<;>grind
theorem zze {t:Rat×Nat} (hne:t.1≠0) (p q:Nat):flT t p*(10^q:Nat)<=(flT t q+1)*(10^p:Nat):=by
 have h1:=(zvk t hne p q).1;have h2:=(zvk t hne q q).2;have hP:(0:Int)<((10^p:Nat):Int):=by exact_mod_cast yS (by simp)
 have hQ:(0:Int)<((10^q:Nat):Int):=by exact_mod_cast yS (by simp)
 generalize ((10^p:Nat):Int)=P at*
 generalize ((10^q:Nat):Int)=Q at*
 generalize flT t p=a at*
 generalize flT t q=b at*
 generalize flT (ngT t) q=g at*
 rw[<-Int.add_mul] at h2;have h3:0<b+1+(g+1):=by
  rcases(show 0<b+1+(g+1)\/b+1+(g+1)<=0 by omega) with k|k
  ·exact k
  ·have:=Int.mul_le_mul_of_nonneg_right k (Int.le_of_lt hQ)
   omega
 have h4:=Int.mul_le_mul_of_nonneg_right (show-(b+1)<=g by omega) (Int.le_of_lt hP);rw[Int.neg_mul] at h4;omega
theorem zle (p q:Nat):∀l:List (Rat×Nat),(∀t∈l,t.1≠0)->valZ l p*(10^q:Nat)<=(valZ l q+l.length)*(10^p:Nat)
 |[],_=>by show(0:Int)*_<=(0+((0:Nat):Int))*_;simp
 |t::l,h=>by
  have h1:=zze (h t (List.mem_cons_self ..)) p q;have h2:=zle p q l λc hc=>h c (List.mem_cons_of_mem _ hc);show(flT t p+valZ l p)*_<=(flT t q+valZ l q+((l.length+1:Nat):Int))*_;generalize ((10^p:Nat):Int)=P at*
  generalize ((10^q:Nat):Int)=Q at*
  have e:(flT t q+valZ l q+((l.length+1:Nat):Int))*P=(flT t q+1)*P+(valZ l q+(l.length:Int))*P:=by
   rw[<-Int.add_mul];congr 1;omega
  rw[e,Int.add_mul];omega
theorem zvr (a b:Nat):(a+b)*(a+b)=a*a+2*(a*b)+b*b:=by
 rw[Nat.add_mul,Nat.mul_add,Nat.mul_add,Nat.mul_comm b a];omega
theorem zxq (P Q m T G:Nat) (R:Nat) (hT:R*R<=m*(T*T)/\m*(T*T)<(R+1)*(R+1)) (hb:(2*Q+1)*(G+P)<T/\G+P<=T):
 (Q*Q<P*P*m->Q*T+G<=P*R)/\(P*P*m<Q*Q->P*R+G<=Q*T):=by
 obtain⟨r1,r2⟩:=hT;obtain⟨b1,b2⟩:=hb;have hQT:(2*Q+1)*(G+P)*T<T*T:=Nat.mul_lt_mul_of_pos_right b1 (by omega);have hGP:(G+P)*(G+P)<=(G+P)*T:=Nat.mul_le_mul_left _ b2;constructor
 ·intro h
  refine Nat.le_of_not_lt λhn=>?_;have h1:P*(R+1)<=Q*T+(G+P):=by rw[Nat.mul_add,Nat.mul_one];omega
  have h2:=Nat.mul_le_mul h1 h1;have h3:P*P*(m*(T*T))<=P*(R+1)*(P*(R+1)):=by
   calc P*P*(m*(T*T))<=P*P*((R+1)*(R+1)):=Nat.mul_le_mul_left _ (zT r2)
    _=P*(R+1)*(P*(R+1)):=by ac_rfl
  have h4:(Q*Q+1)*(T*T)<=P*P*(m*(T*T)):=by
   have:(Q*Q+1)*(T*T)<=P*P*m*(T*T):=Nat.mul_le_mul_right _ h;rwa [Nat.mul_assoc (P*P)] at this
  have e1:(Q*Q+1)*(T*T)=Q*T*(Q*T)+T*T:=by rw[Nat.add_mul,Nat.one_mul];congr 1;ac_rfl
  have e2:(Q*T+(G+P))*(Q*T+(G+P))=Q*T*(Q*T)+2*(Q*T*(G+P))+(G+P)*(G+P):=zvr _ _;have e3:(2*Q+1)*(G+P)*T=2*(Q*T*(G+P))+(G+P)*T:=by
   rw[Nat.add_mul,Nat.add_mul,Nat.one_mul];congr 1;rw[Nat.mul_assoc 2 Q,Nat.mul_assoc 2];congr 1;ac_rfl
  omega
 ·intro h
  refine Nat.le_of_not_lt λhn=>?_;have h0:P*P*(R*R)<=P*P*(m*(T*T)):=Nat.mul_le_mul_left _ r1;have h4:P*P*(m*(T*T))+T*T<=Q*Q*(T*T):=by
   have:(P*P*m+1)*(T*T)<=Q*Q*(T*T):=Nat.mul_le_mul_right _ h;rw[Nat.add_mul,Nat.one_mul,Nat.mul_assoc] at this;exact this
  have h5:Q*T<=P*R+G:=by omega
  have h6:=Nat.mul_le_mul h5 h5;have e1:Q*T*(Q*T)=Q*Q*(T*T):=by ac_rfl
  have e2:(P*R+G)*(P*R+G)=P*P*(R*R)+2*(P*R*G)+G*G:=by
   rw[zvr,show P*R*(P*R)=P*P*(R*R) by ac_rfl]
  have h7:P*R<=Q*T:=by
   refine zT (zx7 ?_);have:P*R*(P*R)=P*P*(R*R):=by ac_rfl
   have:=Nat.mul_pos (show 0<T by omega) (show 0<T by omega);omega
  have h8:P*R*G<=Q*T*G:=Nat.mul_le_mul_right _ h7;have h9:Q*T*G<=Q*T*(G+P):=Nat.mul_le_mul_left _ (by omega);have h10:G*G<=(G+P)*(G+P):=Nat.mul_le_mul (by omega) (by omega);have e3:(2*Q+1)*(G+P)*T=2*(Q*T*(G+P))+(G+P)*T:=by
   rw[Nat.add_mul,Nat.add_mul,Nat.one_mul];congr 1;rw[Nat.mul_assoc 2 Q,Nat.mul_assoc 2];congr 1;ac_rfl
  omega
theorem zn2 {q:Rat} (h:0<q):0<=q.num/\((q.num.natAbs:Nat):Rat)=q*(q.den:Rat):=by
 have h1:0<=q.num:=Rat.num_nonneg.2 (Rat.le_of_lt h);refine⟨h1,?_⟩;have h2:((q.num.natAbs:Nat):Rat)=((q.num:Int):Rat):=by
  have:((q.num.natAbs:Nat):Int)=q.num:=Int.natAbs_of_nonneg h1;exact_mod_cast congrArg (Int.cast (R:=Rat)) this
 rw[h2,zrr q]
theorem zn6 {l:List (Rat×Nat)} (hl:l≠[]) (h:∀t∈l,t.1≠0):(0<valZ l 64->sgeL l=0/\sgnL l=1)/\(valZ l 64+l.length<0->sgeL l=0/\sgnL l= -1):=by
 have s1:sgnL l=sgnP l.length λk=>valZ l (plN k):=if_neg hl;have e1:sgeL l=errP (sgnL l):=if_neg hl;have lp:=List.length_pos_iff.2 hl;have T0:∀q,(0:Int)<((10^q:Nat):Int):=λq=>by exact_mod_cast yS (show 10^q≠0 by simp)
 have some:∀z:Int,valZ l 64=z->(0<z\/z+l.length<0)->sgnL l≠0:=λz hz h0 h1=>by
  rw[s1] at h1;unfold sgnP at h1;split at h1
  ·rename_i g;exact g h1
  ·split at h1
   ·rename_i g;exact g h1
   ·have e2:zap l.length 2 ((λk=>valZ l (plN k)) 2)=zap l.length 2 z:=by rw[<-hz];rfl
    rw[e2] at h1;unfold zap at h1;rcases h0 with h0|h0
    ·rw[if_pos h0] at h1;omega
    ·rw[if_neg (by omega),if_pos (.inl h0)] at h1;omega
 constructor
 ·intro hp
  have hn:=some _ rfl (.inl hp);rcases zg3 l.length (λk=>valZ l (plN k)) with⟨a, -⟩|⟨a,k,hk⟩|a
  ·rw[<-s1] at a
   rw[e1,a];exact⟨by decide,rfl⟩
  ·exfalso
   have hm:=zle 64 (plN k) l h;have:=Int.mul_pos hp (T0 (plN k));have:=Int.mul_nonpos_of_nonpos_of_nonneg hk (Int.le_of_lt (T0 64));omega
  ·rw[<-s1] at a;exact absurd a hn
 ·intro hp
  have hn:=some _ rfl (.inr hp);rcases zg3 l.length (λk=>valZ l (plN k)) with⟨a,k,hk⟩|⟨a, -⟩|a
  ·exfalso
   have hm:=zle (plN k) 64 l h;have:=Int.mul_pos hk (T0 64);have:=Int.mul_nonpos_of_nonpos_of_nonneg (show valZ l 64+(l.length:Int)<=0 by omega) (Int.le_of_lt (T0 (plN k)));omega
  ·rw[<-s1] at a
   rw[e1,a];exact⟨by decide,rfl⟩
  ·rw[<-s1] at a;exact absurd a hn
theorem zzf (q:Nat):rtF 1 q=10^q:=by
 unfold rtF;rw[Nat.one_mul,show 2*q=q+q by omega,Nat.pow_add];exact z1p _
theorem zlz (x y:Rat) (m:Nat) (hx:0<x) (hy:0<y) (sx:sz x 12) (sy:sz y 12):
 (x*x<y*y*(m:Rat)->(10^14:Rat)<=y*((rtF m 64:Nat):Rat)-x*((10^64:Nat):Rat))/\
 (y*y*(m:Rat)<x*x->(10^14:Rat)<=x*((10^64:Nat):Rat)-y*((rtF m 64:Nat):Rat)):=by
 obtain⟨-,nx⟩:=zn2 hx;obtain⟨-,ny⟩:=zn2 hy;have dx0:(0:Rat)<(x.den:Rat):=by exact_mod_cast x.den_pos
 have dy0:(0:Rat)<(y.den:Rat):=by exact_mod_cast y.den_pos
 have hR:=zv0 (m*10^(2*64));rw[show(10:Nat)^(2*64)=10^64*10^64 by decide+kernel] at hR;have hrt:rtF m 64=isq (m*(10^64*10^64)):=by
  unfold rtF;rw[show(10:Nat)^(2*64)=10^64*10^64 by decide+kernel]
 rw[hrt];have bP:y.num.natAbs*x.den<10^24:=zcc (i:=12) (j:=12) sy.1 sx.2;have bQ:x.num.natAbs*y.den<10^24:=zcc (i:=12) (j:=12) sx.1 sy.2;have bD:x.den*y.den<10^24:=zcc (i:=12) (j:=12) sx.2 sy.2;have hc:=zxq (y.num.natAbs*x.den) (x.num.natAbs*y.den) m (10^64) (10^38) _ hR (by
  constructor
  ·calc (2*(x.num.natAbs*y.den)+1)*(10^38+y.num.natAbs*x.den)<=(2*10^24)*(10^38+10^24):=Nat.mul_le_mul (by omega) (by omega)
    _<10^64:=by decide+kernel
  ·exact zO (Nat.add_le_add_left (zT bP) _) (by decide+kernel))
 generalize isq (m*(10^64*10^64))=R at*
 have eP:((y.num.natAbs*x.den:Nat):Rat)=y*((x.den:Rat)*(y.den:Rat)):=by
  rw[Rat.natCast_mul,ny];grind
 have eQ:((x.num.natAbs*y.den:Nat):Rat)=x*((x.den:Rat)*(y.den:Rat)):=by
  rw[Rat.natCast_mul,nx];grind
 have hD:(x.den:Rat)*(y.den:Rat)<=10^24:=by
  have:((x.den*y.den:Nat):Rat)<=((10^24:Nat):Rat):=by exact_mod_cast zT bD
  rw[Rat.natCast_mul] at this;exact this
 have hD0:0<(x.den:Rat)*(y.den:Rat):=Rat.mul_pos dx0 dy0;have hG:((10^38:Nat):Rat)=10^14*10^24:=by decide+kernel
 have sq:∀u:Rat,u*((x.den:Rat)*(y.den:Rat))*(u*((x.den:Rat)*(y.den:Rat)))=u*u*(((x.den:Rat)*(y.den:Rat))*((x.den:Rat)*(y.den:Rat))):=λu=>by grind
 have hDD:=Rat.mul_pos hD0 hD0;have h14:(0:Rat)<=10^14:=by decide+kernel
 generalize y.num.natAbs*x.den=P at*
 generalize x.num.natAbs*y.den=Q at*
 generalize (x.den:Rat)*(y.den:Rat)=D at*
 generalize hT:(10:Nat)^64=T at*
 generalize (10:Rat)^14=g at*
 have hgD:=Rat.mul_le_mul_of_nonneg_left hD h14;constructor
 ·intro h
  have h1:Q*Q<P*P*m:=by
   have:((Q*Q:Nat):Rat)<((P*P*m:Nat):Rat):=by
    rw[Rat.natCast_mul,Rat.natCast_mul,Rat.natCast_mul,eP,eQ,sq,sq];have:=Rat.mul_lt_mul_of_pos_right h hDD;grind
   exact_mod_cast this
  have h2:=hc.1 h1;have h3:(Q:Rat)*(T:Rat)+((10^38:Nat):Rat)<=(P:Rat)*(R:Rat):=by exact_mod_cast h2
  rw[eP,eQ,hG] at h3;refine Rat.le_of_mul_le_mul_right (c:=D) ?_ hD0;grind
 ·intro h
  have h1:P*P*m<Q*Q:=by
   have:((P*P*m:Nat):Rat)<((Q*Q:Nat):Rat):=by
    rw[Rat.natCast_mul,Rat.natCast_mul,Rat.natCast_mul,eP,eQ,sq,sq];have:=Rat.mul_lt_mul_of_pos_right h hDD;grind
   exact_mod_cast this
  have h2:=hc.2 h1;have h3:(P:Rat)*(R:Rat)+((10^38:Nat):Rat)<=(Q:Rat)*(T:Rat):=by exact_mod_cast h2
  rw[eP,eQ,hG] at h3;refine Rat.le_of_mul_le_mul_right (c:=D) ?_ hD0;grind
theorem zte (a b:Rat) (m:Nat) (ha:sz a 12) (hb:sz b 12) (q:Nat):
 -(3*10^12:Rat)<=((valZ [(a,1),(b,m)] q:Int):Rat)-(a*((10^q:Nat):Rat)+b*((rtF m q:Nat):Rat))/\((valZ [(a,1),(b,m)] q:Int):Rat)-(a*((10^q:Nat):Rat)+b*((rtF m q:Nat):Rat))<=3*10^12:=by
 have h1:=zvq (a,1) q;have h2:=zvq (b,m) q;dsimp only at h1 h2;rw[zzf] at h1;have e:((valZ [(a,1),(b,m)] q:Int):Rat)=((flT (a,1) q:Int):Rat)+((flT (b,m) q:Int):Rat):=by
  show(((flT (a,1) q+(flT (b,m) q+0):Int)):Rat)=_;rw[Int.add_zero,Rat.intCast_add]
 rw[e];have b1:((a.num.natAbs:Nat):Rat)<=((10^12:Nat):Rat):=by exact_mod_cast zT ha.1
 have b2:((b.num.natAbs:Nat):Rat)<=((10^12:Nat):Rat):=by exact_mod_cast zT hb.1
 have e3:((10^12:Nat):Rat)=10^12:=by decide+kernel
 have e4:(6:Rat)<=10^12:=by decide+kernel
 rw[e3] at b1 b2;generalize (10:Rat)^12=g at*
 constructor<;>grind
theorem zo7 {a b:Rat} {m:Nat} (ha:sz a 12) (hb:sz b 12) (hs:(a<0/\0<b)\/(0<a/\b<0)):
 (a*a<b*b*(m:Rat)->sgeL [(a,1),(b,m)]=0/\sgnL [(a,1),(b,m)]=if 0<b then 1 else-1)/\
 (b*b*(m:Rat)<a*a->sgeL [(a,1),(b,m)]=0/\sgnL [(a,1),(b,m)]=if 0<b then-1 else 1):=by
 have hv:=zte a b m ha hb 64
 obtain⟨f1,f2⟩:=zn6 (l:=[(a,1),(b,m)]) (by simp) (λt ht=>by
  rcases List.mem_cons.1 ht with rfl|ht
  ·rcases hs with⟨h, -⟩|⟨h, -⟩<;>(dsimp only;grind)
  ·obtain rfl:=List.mem_singleton.1 ht
   rcases hs with⟨-,h⟩|⟨-,h⟩<;>(dsimp only;grind))
 have h14:(3*10^12:Rat)+2<10^14:=by decide+kernel
 have h0:(0:Rat)<=3*10^12:=by decide+kernel
 have cp:(0:Rat)<((valZ [(a,1),(b,m)] 64:Int):Rat)->0<valZ [(a,1),(b,m)] 64:=λh=>by exact_mod_cast h
 have cn:((valZ [(a,1),(b,m)] 64:Int):Rat)+2<0->valZ [(a,1),(b,m)] 64+2<0:=λh=>by
  have:((valZ [(a,1),(b,m)] 64+2:Int):Rat)<((0:Int):Rat):=by rw[Rat.intCast_add];exact h
  exact_mod_cast this
 have hlen:(([(a,1),(b,m)]:List (Rat×Nat)).length:Int)=2:=rfl;rw[hlen] at f2;generalize ((valZ [(a,1),(b,m)] 64:Int):Rat)=V at*
 have ng:∀{q:Rat},sz q 12->sz (-q) 12:=λh=>⟨by rw[show(-_:Rat).num= -Rat.num _ from rfl,Int.natAbs_neg];exact h.1,h.2⟩;rcases hs with⟨h1,h2⟩|⟨h1,h2⟩
 ·obtain⟨k1,k2⟩:=zlz (-a) b m (by grind) h2 (ng ha) hb
  rw[if_pos h2,if_pos h2];generalize (10:Rat)^14=g at*
  generalize (3*10^12:Rat)=e at*
  generalize ((10^64:Nat):Rat)=T at*
  generalize ((rtF m 64:Nat):Rat)=R at*
  refine⟨λh=>f1 (cp ?_),λh=>f2 (cn ?_)⟩
  ·have:=k1 (by grind)
   grind
  ·have:=k2 (by grind)
   grind
 ·obtain⟨k1,k2⟩:=zlz a (-b) m h1 (by grind) ha (ng hb)
  rw[if_neg (by grind),if_neg (by grind)];generalize (10:Rat)^14=g at*
  generalize (3*10^12:Rat)=e at*
  generalize ((10^64:Nat):Rat)=T at*
  generalize ((rtF m 64:Nat):Rat)=R at*
  refine⟨λh=>f2 (cn ?_),λh=>f1 (cp ?_)⟩
  ·have:=k1 (by grind)
   grind
  ·have:=k2 (by grind)
   grind
theorem zxr {f:Nat}:∀{i l:Nat} {Y:List (Nat×Nat)},i<=25->0<l->25-i+l<=f->SqY i l Y->
 sqX l Y Y.length∣l/\∀j,i<=j->j<25->¬prN j*prN j∣sqX l Y Y.length:=by
 induction f with
 |zero=>intro i l Y hi hl hf;omega
 |succ f ih=>
  intro i l Y hi hl hf h;by_cases h25:i=25
  ·subst h25
   obtain rfl:=h.done;exact⟨Nat.dvd_refl _,λj h1 h2=>by omega⟩
  ·have hlt:i<25:=by omega
   obtain⟨h2, -⟩:=zw4 i hlt;by_cases hd:prN i*prN i∣l
   ·obtain⟨Y',rfl,h'⟩:=h.take hlt hl hd
    have hpp:4<=prN i*prN i:=Nat.mul_le_mul h2 h2;have hl1:0<l/(prN i*prN i):=Nat.div_pos (Nat.le_of_dvd hl hd) (by omega);have hl2:l/(prN i*prN i)<l:=Nat.div_lt_self hl (by omega);obtain⟨a1,a2⟩:=ih hi hl1 (by omega) h';rw[List.length_cons,zy3];exact⟨Nat.dvd_trans a1 (Nat.div_dvd_of_dvd hd),a2⟩
   ·obtain⟨a1,a2⟩:=ih (i:=i+1) (by omega) hl (by omega) (h.skip hlt hd)
    refine⟨a1,λj h1 h3=>?_⟩;by_cases e:j=i
    ·subst e
     exact λk=>hd (Nat.dvd_trans k a1)
    ·exact a2 j (by omega) h3
theorem zme {c l:Nat}:∀(d i:Nat),i+d=25->(∀j,i<=j->j<25->¬prN j*prN j∣l)->zro (prL.drop i) (c,l)=(c,l)
 |0,i,h,_=>by
  obtain rfl:i=25:=by omega
  rfl
 |d+1,i,h,k=>by
  rw[z79 i (by omega)];show zro (prL.drop (i+1)) (zkk (prN i) (c,l))=_;rw[z78 (k i (zN _) (by omega))];exact zme d (i+1) (by omega) λj h1 h2=>k j (by omega) h2
theorem zmf {N:Nat} (hN:0<N):(zn7 N).1*(zn7 N).1*(zn7 N).2=N/\0<(zn7 N).1/\0<(zn7 N).2/\zn7 (zn7 N).2=(1,(zn7 N).2):=by
 obtain⟨Y,hY⟩:=z65 0 N;obtain⟨h1,h2⟩:=SqY.law (f:=25-0+N) (by omega) hN (zN _) hY;obtain⟨-,h4⟩:=zxr (f:=25-0+N) (by omega) hN (zN _) hY;have h3:=h2 1;rw[Nat.one_mul,List.drop_zero] at h3;obtain⟨b1,b2,b3,b4,b5⟩:=zxv hN h1 (zN _);have eN:=h1 _ (zN _);have hn:zn7 N=if isq (sqX N Y Y.length)*isq (sqX N Y Y.length)=sqX N Y Y.length then(sqC Y Y.length*isq (sqX N Y Y.length),1) else(sqC Y Y.length,sqX N Y Y.length):=by
  unfold zn7;rw[h3]
 rw[hn];generalize sqX N Y Y.length=X at*
 generalize sqC Y Y.length=C at*
 by_cases g:isq X*isq X=X
 ·rw[if_pos g]
  dsimp only;have hi:0<isq X:=yS λe=>by rw[e] at g;omega
  refine⟨?_,Nat.mul_pos b3 hi,by omega,by decide+kernel⟩;rw[<-eN]
  conv=>rhs;rw[<-g]
  ac_rfl
 ·rw[if_neg g]
  dsimp only;refine⟨eN,b3,b4,?_⟩;have h5:=zme (c:=1) (l:=X) 25 0 rfl λj _ hj=>h4 j (zR _) hj;rw[List.drop_zero] at h5;unfold zn7;rw[h5];dsimp only;rw[if_neg g]
end
section
open Go.RowKit Go.Shelf Lib Str Limb
attribute [local go_sem] Oper.semAt_some
def b2 (b:Rat):List (Rat×Nat):=[(b,2)]
section
variable {w W W':zA} {o:Nat} {a b c a' b' c':List UInt8} {d d':Value} {l:List (Rat×Nat)} {f g:Nat->Bool}
end
section
variable {w W W':zA} {a b c a2 b2 c2:List UInt8} {v d:Value} {l l2:List (Rat×Nat)} {f g:Nat->Bool}
end
section
variable {w W W':zA} {s0 s1 s2 p0 p1 p2:Value} {x0 x1 x2:List UInt8}
end
theorem zfq (a b c:List UInt8) (w:zA):
 qJ 287 #[.agg #[St a,St b,St c]] w (.agg #[St a,St b,St c]):=by
 go_enter Tryz.func287,Tryz.ntmps287;go_wp21;exact bodyPost_ret (v:=.agg #[St a,St b,St c]) (by simp[results,Tryz.results287,go_sem]) rfl ⟨rfl,((zM _ w).alloc (zN _) _).alloc (by simp) _⟩
theorem zc1 (a b c:List UInt8) (w:zA):(Instr.index 313 (.agg #[St a,St b,St c]) (.int .i64 0)).run zF w=.ok (St a) w/\(Instr.index 313 (.agg #[St a,St b,St c]) (.int .i64 1)).run zF w=.ok (St b) w/\(Instr.index 313 (.agg #[St a,St b,St c]) (.int .i64 2)).run zF w=.ok (St c) w:=
 ⟨by kernel_rfl,by kernel_rfl,by kernel_rfl⟩
theorem zj9 (a b c:List UInt8)
 (C0:Hid (qK 54 #[St a] (.int .i64 0)))
 (C1:Hid (qK 54 #[St b] (.int .i64 0)))
 (C2:Hid (qK 54 #[St c] (.int .i64 0)))
 (w:zA) (HW:Hid (Wd w)):
 qJ 221 #[.agg #[St a,St b,St c]] w (.int .i64 0):=by
 have n0:=λw=>(zc1 a b c w).1;have n1:=λw=>(zc1 a b c w).2.1;have n2:=λw=>(zc1 a b c w).2.2;obtain⟨v1,hv⟩:=zzX (w.alloc (.cells #[St a,St b,St c] 58));have a1:qL w v1:=by rw[hv];exact(zM _ w).alloc (zN _) _
 have HV:=hid hv.symm;have E1:=hid a1;clear hv a1;go_enter Tryz.func221,Tryz.ntmps221;go_wp21;have h9:=HV.out;rw[show w.alloc (.cells #[.string ⟨a.toArray⟩,.string ⟨b.toArray⟩,.string ⟨c.toArray⟩] 58)=v1 from h9];clear h9 HV;refine zzM (zfq a b c v1) λr0 hb=>?_;have E2:=hid (E1.out.trans (hb.mono E1.out.size));clear hb E1;go_wp21;refine wp_loop_rounds 4 ?_;rw[rounds_succ];go_wp21;refine zzM (C0.out r0 (HW.out.below E2.out)) λr1 hb=>?_;have E3:=hid (E2.out.trans (hb.mono E2.out.size));clear hb E2;go_wp21;rw[rounds_succ];go_wp21;refine zzM (C1.out r1 (HW.out.below E3.out)) λr2 hb=>?_;have E4:=hid (E3.out.trans (hb.mono E3.out.size));clear hb E3;go_wp21;rw[rounds_succ];go_wp21;refine zzM (C2.out r2 (HW.out.below E4.out)) λr3 hb=>?_;have E5:=hid (E4.out.trans (hb.mono E4.out.size));clear hb E4;go_wp21;rw[rounds_succ];go_wp21;go_ret;exact⟨rfl,E5.out⟩
section
variable {w W W':zA} {P:Nat} {p0 p1 p2:Value} {x0 x1 x2:List UInt8}
end
section
variable {w W W':zA} {a b c:List UInt8} {d s0 s1 s2 r:Value} {M:List (Rat×Nat)} {E F:Prop} {er:Int} {f g:Nat->Bool}
end
structure Hw (w:zA):Prop where
 wd:Wd w
 pw:Pw w
 sw:Spw w
theorem Hw.below {w w':zA} (h:Hw w) (hb:qL w w'):Hw w':=⟨h.wd.below hb,h.pw.below hb,h.sw.below hb⟩
theorem Hw.d {w:zA} (h:Hw w):Hid (∀W,qL w W->Wd W):=hid λ_ hW=>(h.below hW).wd
theorem Hw.p {w:zA} (h:Hw w):Hid (∀W,qL w W->Pw W):=hid λ_ hW=>(h.below hW).pw
theorem z0m {l r:List (Rat×Nat)} (hl:SdOk l) (hr:SdOk r) (hlen:l.length+r.length<=12) (hs:∀c∈mkG (l++r),sz c.1 60):SdOk (mkG (l++r)):=
 zvh (λt ht=>((List.mem_append.1 ht).elim (λh=>hl.trm t h) λh=>hr.trm t h).nr) (by simpa using hlen) hs
def zm0 (q:Rat):Prop:=digs q.num<=9/\(zD q.den).length<=9
instance (q:Rat):Decidable (zm0 q):=by unfold zm0;infer_instance
end
section
open Go.RowKit Go.Shelf Lib Str Limb Geo
attribute [local go_sem] Oper.semAt_some
end
section
open Go.RowKit Go.Shelf Lib Str Limb
attribute [local go_sem] Oper.semAt_some
theorem zpi (a b c:List UInt8) (w:zA):
 qJ 330 #[.agg #[St a,St b,St c]] w (.agg #[St a,St b,St c]):=by
 go_enter Tryz.func330,Tryz.ntmps330;go_wp21;exact bodyPost_ret (v:=.agg #[St a,St b,St c]) (by simp[results,Tryz.results330,go_sem]) rfl ⟨rfl,((zM _ w).alloc (zN _) _).alloc (by simp) _⟩
theorem zmz (a b c d e f:List UInt8) (w:zA)
 (C0:Hid (∀W:zA,qL w W->qJ 221 #[.agg #[St a,St b,St c]] W (.int .i64 0)))
 (C1:Hid (∀W:zA,qL w W->qJ 221 #[.agg #[St d,St e,St f]] W (.int .i64 0))):
 qJ 356 #[.agg #[St a,St b,St c],.agg #[St d,St e,St f]] w (.int .i64 0):=by
 obtain⟨v1,hv⟩:=zzX ((w.alloc (.cells #[St a,St b,St c] 58)).alloc (.cells #[St d,St e,St f] 58));have b1:qL w v1:=by rw[hv];exact((zM _ w).alloc (zN _) _).alloc (by simp) _
 have A2:v1.heap[w.heap.size+1]? =some (.cells #[St d,St e,St f] 58 (0,0)):=by
  rw[hv];have:=zG (w.alloc (.cells #[St a,St b,St c] 58)) (.cells #[St d,St e,St f] 58);rw[zH] at this;exact this
 have B1:=hid b1;have P1:=hid A2;have HV:=hid hv.symm;have HC:=hid (C0.out v1 b1);clear hv b1 A2 C0;go_enter Tryz.func356,Tryz.ntmps356;go_wp21;have h9:=HV.out;rw[show(w.alloc (.cells #[.string ⟨a.toArray⟩,.string ⟨b.toArray⟩,.string ⟨c.toArray⟩] 58)).alloc (.cells #[.string ⟨d.toArray⟩,.string ⟨e.toArray⟩,.string ⟨f.toArray⟩] 58)=v1 from h9];clear h9 HV;refine zzM HC.out λr1 hb=>?_;have hbb:=B1.out.trans (hb.mono B1.out.size);have B2:=hid hbb;have hp:=zac hb _ _ _ _ P1.out;have k0:r1.cell? ⟨w.heap.size+1,0,none⟩=some (St d):=by rw[zJ hp];rfl
 have k1:r1.cell? ⟨w.heap.size+1,1,none⟩=some (St e):=by rw[zJ hp];rfl
 have k2:r1.cell? ⟨w.heap.size+1,2,none⟩=some (St f):=by rw[zJ hp];rfl
 have HS:=hid (C1.out r1 hbb);clear hb hbb hp B1 P1 HC C1;go_wp21;refine zzM HS.out λr2 hb=>?_;have B3:=hid (B2.out.trans (hb.mono B2.out.size));clear hb;go_wp21;go_ret;exact⟨rfl,B3.out⟩
structure WtS (w:zA) (a0 a1 a2 b0 b1 b2 o0 o1 o2:List UInt8) (Y:Nat) (W:zA):Prop where
 bel:qL w W
 h0:W.heap[w.heap.size]? =some (.cells #[St a0,St a1,St a2] 270 (0,0))
 h1:W.heap[w.heap.size+1]? =some (.cells #[St b0,St b1,St b2] 270 (0,0))
 h2:W.heap[w.heap.size+1+1]? =some (.cells #[St [],St [],St []] 58 (0,0))
 h3:W.heap[w.heap.size+1+1+1]? =some (.cells #[St o0,St o1,St o2] 313 (0,0))
 lo:w.heap.size+1+1+1<Y
 h4:W.heap[Y]? =some (.cells #[St b0,St b1,St b2] 313 (0,0))
section
variable {w W W':zA} {a0 a1 a2 b0 b1 b2 o0 o1 o2:List UInt8} {Y:Nat}
theorem WtS.next (h:WtS w a0 a1 a2 b0 b1 b2 o0 o1 o2 Y W) (hb:qL W W'):WtS w a0 a1 a2 b0 b1 b2 o0 o1 o2 Y W':=
 have hc:=zac hb
 ⟨h.bel.trans (hb.mono h.bel.size),hc _ _ _ _ h.h0,hc _ _ _ _ h.h1,hc _ _ _ _ h.h2,hc _ _ _ _ h.h3,h.lo,hc _ _ _ _ h.h4⟩
theorem zah {W:zA} {A:Nat} {x y z:Value} {t:TypeId} (h:W.heap[A]? =some (.cells #[x,y,z] t (0,0))):W.cell? ⟨A,0,none⟩=some x/\W.cell? ⟨A,1,none⟩=some y/\W.cell? ⟨A,2,none⟩=some z/\W.frozen? ⟨A,0,none⟩=false/\W.frozen? ⟨A,1,none⟩=false/\W.frozen? ⟨A,2,none⟩=false:=
 ⟨by rw[zJ h];rfl,by rw[zJ h];rfl,by rw[zJ h];rfl,Go.Joins.unfrozen_of_block h 0,Go.Joins.unfrozen_of_block h 1,Go.Joins.unfrozen_of_block h 2⟩
theorem WtS.ne (h:WtS w a0 a1 a2 b0 b1 b2 o0 o1 o2 Y W) (i:Nat) (u:Value):qL w (W.setCell ⟨w.heap.size+1+1+1,i,none⟩ u)/\(∀b,b≠w.heap.size+1+1+1->(W.setCell ⟨w.heap.size+1+1+1,i,none⟩ u).heap[b]? =W.heap[b]?):=
 ⟨h.bel.setCell (p:=⟨w.heap.size+1+1+1,i,none⟩) (by show _<=w.heap.size+1+1+1;omega) _,λb hb=>Below.heap_setCell _ _ _ _ (by exact hb)⟩
theorem WtS.put0 (h:WtS w a0 a1 a2 b0 b1 b2 o0 o1 o2 Y W) (u:List UInt8):WtS w a0 a1 a2 b0 b1 b2 u o1 o2 Y (W.setCell ⟨w.heap.size+1+1+1,0,none⟩ (St u)):=by
 obtain⟨k1,k2⟩:=h.ne 0 (St u);have:=h.lo;exact⟨k1,(k2 _ (by omega)).trans h.h0,(k2 _ (by omega)).trans h.h1,(k2 _ (by omega)).trans h.h2,zK (i:=0) h.h3 (St u),h.lo,(k2 _ (by omega)).trans h.h4⟩
theorem WtS.put1 (h:WtS w a0 a1 a2 b0 b1 b2 o0 o1 o2 Y W) (u:List UInt8):WtS w a0 a1 a2 b0 b1 b2 o0 u o2 Y (W.setCell ⟨w.heap.size+1+1+1,1,none⟩ (St u)):=by
 obtain⟨k1,k2⟩:=h.ne 1 (St u);have:=h.lo;exact⟨k1,(k2 _ (by omega)).trans h.h0,(k2 _ (by omega)).trans h.h1,(k2 _ (by omega)).trans h.h2,zK (i:=1) h.h3 (St u),h.lo,(k2 _ (by omega)).trans h.h4⟩
theorem WtS.put2 (h:WtS w a0 a1 a2 b0 b1 b2 o0 o1 o2 Y W) (u:List UInt8):WtS w a0 a1 a2 b0 b1 b2 o0 o1 u Y (W.setCell ⟨w.heap.size+1+1+1,2,none⟩ (St u)):=by
 obtain⟨k1,k2⟩:=h.ne 2 (St u);have:=h.lo;exact⟨k1,(k2 _ (by omega)).trans h.h0,(k2 _ (by omega)).trans h.h1,(k2 _ (by omega)).trans h.h2,zK (i:=2) h.h3 (St u),h.lo,(k2 _ (by omega)).trans h.h4⟩
end
theorem zgo (a0 a1 a2 b0 b1 b2 c0 c1 c2:List UInt8) (g:FuncId) (eg:∀args w,(callFunc g args).run zF w=.ok (.enter g args) w) (w:zA)
 (F0:Hid (∀W:zA,qL w W->zC zF g #[St a0,St b0] W λe w'=>e=.returned (.tuple #[St c0,.int .i64 0])/\zB W.heap.size W w'))
 (F1:Hid (∀W:zA,qL w W->zC zF g #[St a1,St b1] W λe w'=>e=.returned (.tuple #[St c1,.int .i64 0])/\zB W.heap.size W w'))
 (F2:Hid (∀W:zA,qL w W->zC zF g #[St a2,St b2] W λe w'=>e=.returned (.tuple #[St c2,.int .i64 0])/\zB W.heap.size W w')):
 qJ 292 #[.agg #[St a0,St a1,St a2],.agg #[St b0,St b1,St b2],.func (.func g) #[] #[]] w (.tuple #[.agg #[St c0,St c1,St c2],.int .i64 0]):=by
 have n0:=λw=>(zc1 a0 a1 a2 w).1;have n1:=λw=>(zc1 a0 a1 a2 w).2.1;have n2:=λw=>(zc1 a0 a1 a2 w).2.2;obtain⟨x1,hx1⟩:=zzX (w.alloc (.cells #[St a0,St a1,St a2] 270));obtain⟨x2,hx2⟩:=zzX (x1.alloc (.cells #[St b0,St b1,St b2] 270));obtain⟨x3,hx3⟩:=zzX (x2.alloc (.cells #[St [],St [],St []] 58));obtain⟨x4,hx4⟩:=zzX (x3.alloc (.cells #[St [],St [],St []] 313));have s1:x1.heap.size=w.heap.size+1:=by rw[hx1];simp
 have s2:x2.heap.size=w.heap.size+1+1:=by rw[hx2,zH,s1]
 have s3:x3.heap.size=w.heap.size+1+1+1:=by rw[hx3,zH,s2]
 have s4:x4.heap.size=w.heap.size+1+1+1+1:=by rw[hx4,zH,s3]
 have q1:qL w x1:=by rw[hx1];exact(zM _ w).alloc (zN _) _
 have q2:qL x1 x2:=by rw[hx2];exact(zM _ x1).alloc (zN _) _
 have q3:qL x2 x3:=by rw[hx3];exact(zM _ x2).alloc (zN _) _
 have q4:qL x3 x4:=by rw[hx4];exact(zM _ x3).alloc (zN _) _
 have f1:x1.heap[w.heap.size]? =some (.cells #[St a0,St a1,St a2] 270 (0,0)):=by rw[hx1];exact zG w _
 have f2:x2.heap[w.heap.size+1]? =some (.cells #[St b0,St b1,St b2] 270 (0,0)):=by rw[hx2,<-s1];exact zG x1 _
 have f3:x3.heap[w.heap.size+1+1]? =some (.cells #[St [],St [],St []] 58 (0,0)):=by rw[hx3,<-s2];exact zG x2 _
 have f4:x4.heap[w.heap.size+1+1+1]? =some (.cells #[St [],St [],St []] 313 (0,0)):=by rw[hx4,<-s3];exact zG x3 _
 have q24:=(q2.trans (q3.mono q2.size)).trans (q4.mono (q2.trans (q3.mono q2.size)).size);have q34:=q3.trans (q4.mono q3.size);have q14:=q1.trans (q24.mono q1.size);have F:=hid (⟨q14,zac q24 _ _ _ _ f1,zac q34 _ _ _ _ f2,zac q4 _ _ _ _ f3,f4,s4⟩:
  qL w x4/\x4.heap[w.heap.size]? =some (.cells #[St a0,St a1,St a2] 270 (0,0))/\x4.heap[w.heap.size+1]? =some (.cells #[St b0,St b1,St b2] 270 (0,0))/\x4.heap[w.heap.size+1+1]? =some (.cells #[St [],St [],St []] 58 (0,0))/\x4.heap[w.heap.size+1+1+1]? =some (.cells #[St [],St [],St []] 313 (0,0))/\x4.heap.size=w.heap.size+1+1+1+1)
 have hall:x4=(((w.alloc (.cells #[St a0,St a1,St a2] 270)).alloc (.cells #[St b0,St b1,St b2] 270)).alloc (.cells #[St [],St [],St []] 58)).alloc (.cells #[St [],St [],St []] 313):=by rw[hx4,hx3,hx2,hx1]
 have HV:=hid hall.symm;have EG:=hid eg;clear hall hx1 hx2 hx3 hx4 s1 s2 s3 s4 q1 q2 q3 q4 f1 f2 f3 f4 q24 q34 q14 eg;clear x1 x2 x3;go_enter Tryz.func292,Tryz.ntmps292;go_wp21;have h9:=HV.out;rw[show(((w.alloc (.cells #[.string ⟨a0.toArray⟩,.string ⟨a1.toArray⟩,.string ⟨a2.toArray⟩] 270)).alloc (.cells #[.string ⟨b0.toArray⟩,.string ⟨b1.toArray⟩,.string ⟨b2.toArray⟩] 270)).alloc (.cells #[.string ⟨#[]⟩,.string ⟨#[]⟩,.string ⟨#[]⟩] 58)).alloc (.cells #[.string ⟨#[]⟩,.string ⟨#[]⟩,.string ⟨#[]⟩] 313)=x4 from h9];clear h9 HV;refine zzM (zfq b0 b1 b2 x4) λr0 hb=>?_;obtain⟨y4,hy⟩:=zzX (r0.alloc (.cells #[St b0,St b1,St b2] 313));have by4:qL r0 y4:=by rw[hy];exact(zM _ r0).alloc (zN _) _
 obtain⟨Y,hY⟩:=zzX r0.heap.size;have hYb:y4.heap[Y]? =some (.cells #[St b0,St b1,St b2] 313 (0,0)):=by rw[hy,hY];exact zG r0 _
 have hx:=hb.trans (by4.mono hb.size);have hck:=zac hx;have HS0:Hid (WtS w a0 a1 a2 b0 b1 b2 [] [] [] Y y4):=hid ⟨F.out.1.trans (hx.mono F.out.1.size),hck _ _ _ _ F.out.2.1,hck _ _ _ _ F.out.2.2.1,hck _ _ _ _ F.out.2.2.2.1,hck _ _ _ _ F.out.2.2.2.2.1,by have:=hb.size;have:=F.out.2.2.2.2.2;omega,hYb⟩;have y0:y4.cell? ⟨w.heap.size,0,none⟩=some (St a0):=(zah HS0.out.h0).1;have y1:y4.cell? ⟨w.heap.size,1,none⟩=some (St a1):=(zah HS0.out.h0).2.1;have y2:y4.cell? ⟨w.heap.size,2,none⟩=some (St a2):=(zah HS0.out.h0).2.2.1;have HY:=hid hy.symm;have HYe:=hid hY.symm;clear hb hx hck hy hY by4 hYb F;rw[<-HY.out] at y0 y1 y2;go_wp21;have h9:=HY.out;rw[show r0.alloc (.cells #[.string ⟨b0.toArray⟩,.string ⟨b1.toArray⟩,.string ⟨b2.toArray⟩] 313)=y4 from h9,HYe.out];clear h9 HY HYe y0 y1 y2;refine zzM (zfq a0 a1 a2 y4) λt3 hb=>?_;have HP3:=hid (HS0.out.next hb);clear hb HS0;go_wp21;refine wp_loop_rounds 4 ?_;rw[rounds_succ];obtain⟨d0,d1,d2, -, -, -⟩:=zah HP3.out.h4;have heg:=EG.out;have HC:=hid (F0.out t3 HP3.out.bel);go_wp21;clear d0 d1 d2 heg;refine zzM HC.out λr0 hb=>?_;have HR0:=hid (HP3.out.next hb);clear hb HC HP3;obtain⟨d0,d1,d2,z0,z1,z2⟩:=zah HR0.out.h3;obtain⟨t0,ht0⟩:=zzX (r0.setCell ⟨w.heap.size+1+1+1,0,none⟩ (St c0));have hp:=HR0.out.put0 c0;rw[<-ht0] at hp;have HQ0:=hid hp;have HT:=hid ht0.symm;clear hp ht0;go_wp21;have h9:=HT.out;rw[show r0.setCell ⟨w.heap.size+1+1+1,0,none⟩ (.string ⟨c0.toArray⟩)=t0 from h9];clear h9 HT d0 d1 d2 z0 z1 z2 HR0;rw[rounds_succ]
 obtain⟨d0,d1,d2, -, -, -⟩:=zah HQ0.out.h4;have heg:=EG.out;have HC:=hid (F1.out t0 HQ0.out.bel);go_wp21;clear d0 d1 d2 heg;refine zzM HC.out λr1 hb=>?_;have HR1:=hid (HQ0.out.next hb);clear hb HC HQ0;obtain⟨d0,d1,d2,z0,z1,z2⟩:=zah HR1.out.h3;obtain⟨t1,ht1⟩:=zzX (r1.setCell ⟨w.heap.size+1+1+1,1,none⟩ (St c1));have hp:=HR1.out.put1 c1;rw[<-ht1] at hp;have HQ1:=hid hp;have HT:=hid ht1.symm;clear hp ht1;go_wp21;have h9:=HT.out;rw[show r1.setCell ⟨w.heap.size+1+1+1,1,none⟩ (.string ⟨c1.toArray⟩)=t1 from h9];clear h9 HT d0 d1 d2 z0 z1 z2 HR1;rw[rounds_succ];obtain⟨d0,d1,d2, -, -, -⟩:=zah HQ1.out.h4;have heg:=EG.out;have HC:=hid (F2.out t1 HQ1.out.bel);go_wp21;clear d0 d1 d2 heg;refine zzM HC.out λr2 hb=>?_;have HR2:=hid (HQ1.out.next hb);clear hb HC HQ1;obtain⟨d0,d1,d2,z0,z1,z2⟩:=zah HR2.out.h3;obtain⟨t2,ht2⟩:=zzX (r2.setCell ⟨w.heap.size+1+1+1,2,none⟩ (St c2));have hp:=HR2.out.put2 c2;rw[<-ht2] at hp;have HQ2:=hid hp;have HT:=hid ht2.symm;clear hp ht2;go_wp21;have h9:=HT.out;rw[show r2.setCell ⟨w.heap.size+1+1+1,2,none⟩ (.string ⟨c2.toArray⟩)=t2 from h9];clear h9 HT d0 d1 d2 z0 z1 z2 HR2;rw[rounds_succ];obtain⟨d0,d1,d2, -, -, -⟩:=zah HQ2.out.h3;go_wp21;clear d0 d1 d2;refine zzM (zpi c0 c1 c2 t2) λr3 hb=>?_;have hn:=HQ2.out.next hb;obtain⟨d0,d1,d2,z0,z1,z2⟩:=zah hn.h2;have HF:=hid hn;clear hn hb HQ2;go_wp21;have hf:=HF.out.bel
 exact bodyPost_ret (v:=.tuple #[.agg #[St c0,St c1,St c2],.int .i64 0]) (by simp[results,Tryz.results292,go_sem,d0,d1,d2]) rfl ⟨rfl,((hf.setCell (p:=⟨w.heap.size+1+1,0,none⟩) (by show _<=w.heap.size+1+1;omega) _).setCell (p:=⟨w.heap.size+1+1,1,none⟩) (by show _<=w.heap.size+1+1;omega) _).setCell (p:=⟨w.heap.size+1+1,2,none⟩) (by show _<=w.heap.size+1+1;omega) _⟩
end
end Go.Proofs.YtmeekcnlacckfaaGreatDoor
