/- kingpostref10.canonical. -/
import Derived.Test.YthfpmfdiamldoaaGreatDoorG26
set_option maxRecDepth 100000
set_option maxHeartbeats 8000000
open Go renaming World → zA, Calls → zC
open Go.RowKit renaming Below → zB, intOf → zL
open Go.Proofs.Tryz renaming prog → zF
open Go.IntWalk renaming i64_in → zI
open Go.RowKit.Below renaming refl → zM
open Nat renaming le_refl → zN, mod_lt → zP, mod_eq_of_lt → zQ, zero_le → zR
open List renaming length_append → zU
namespace Go.Proofs.YthfpmfdiamldoaaGreatDoor
open Go.RowKit Go.Shelf Lib Str Limb Geo
attribute [local go_sem] Oper.semAt_some
theorem yaj (w:zA):(w.alloc (.cells #[] 25)).ownsRow w.heap.size 25 2 (.slice (some ⟨w.heap.size,0,none⟩) 0 0) 0 []:=
 ⟨rfl,.inr ⟨w.heap.size,0,#[],rfl,zN _,World.alloc_heap_new w _,zN _,zR _,rfl,rfl⟩⟩
theorem yat (b off cap:Nat) (l o:List Pt) (h3:3<=l.length) (hlen:l.length<=4096) (ho:o=z3n l) (h0:0<o.length) (w:zA) (HW:Hid (Wd w))
 (TU:Hid (∀i j k,qK 38 #[ptV (cor l i),ptV (cor l j),ptV (cor l k)] (.int .i64 (turn (cor l i) (cor l j) (cor l k)))))
 (TV:Hid (∀i j k,qK 38 #[ptV (cor o i),ptV (cor o j),ptV (cor o k)] (.int .i64 (turn (cor o i) (cor o j) (cor o k)))))
 (OR:Hid (∀i j,qK 94 #[ptV (cor o i),ptV (cor o j)] (.int .i64 (ordP (cor o i) (cor o j)))))
 (HC:Hid (∀W:zA,qL w W->∀k,W.cell? ⟨b,off+k%l.length*2,none⟩=some (St (numS (cor l k).x))/\W.cell? ⟨b,off+k%l.length*2+1,none⟩=some (St (numS (cor l k).y)))):
 zC zF 43 #[.slice (some ⟨b,off,none⟩) l.length cap] w λe w'=>∃v,e=.returned v/\w'.ownsRow w.heap.size 25 2 v o.length (z3k (z31 o))/\zB w.heap.size w w':=by
 obtain⟨n,hn⟩:∃n,n=l.length:=⟨_,rfl⟩
 rw[<-hn] at h3 hlen HC⊢
 have HN:=hid hn;clear hn
 have HO:=hid ho;clear ho
 have hal:qL w (w.alloc (.cells #[] 25)):=(zM _ w).alloc (zN _) _
 have HB0:=hid hal
 have HO0:=hid (yaj w)
 clear hal
 go_enter Tryz.func43,Tryz.ntmps43
 go_wp2_with fail
 obtain⟨W0,hW0⟩:∃W0,W0=w.alloc (.cells #[] 25):=⟨_,rfl⟩
 rw[<-hW0] at HB0 HO0⊢
 clear hW0
 go_loopw [5,3] (λi v wr=>∃(k:Nat) (q:Option Addr) (c:Nat),k<=n/\i=.int .i64 (k:Int)/\v=.slice q (z3o l k).length c/\Hid (qL w wr)/\Hid (wr.ownsRow w.heap.size 25 2 (.slice q (z3o l k).length c) (z3o l k).length (z3k (z3o l k))))
  (λi _ _=>n-(zL i).toNat)
 case atStart=>exact⟨0,some ⟨w.heap.size,0,none⟩,0,zR _,rfl,rfl,HB0,HO0⟩
 case round=>
  obtain⟨k,q,c,hk,rfl,rfl,hB,hO⟩:=hrel
  clear HB0 HO0
  by_cases hlt:k<n
  ·have hcs:=HC.out
   have HCi:=hid λW h=>hcs W h (k+n-1)
   have HCj:=hid λW h=>hcs W h k
   have HCk:=hid λW h=>hcs W h (k+1)
   rw[zQ hlt] at HCj
   clear hcs
   have hF:=TU.out (k+n-1) k (k+1)
   unfold ptV at hF
   have HFL0:=hid (show z3m l k=decide (turn (cor l (k+n-1)) (cor l k) (cor l (k+1))=0) by unfold z3m;rw[<-HN.out])
   generalize hm:turn (cor l (k+n-1)) (cor l k) (cor l (k+1))=m at*
   have HF:=hid hF;clear hF
   have ht:=z5z (k:=k) (n:=n) (by omega)
   have ht2:=z44 k n
   have hn0:¬n=0:=by omega
   have hw1:IntKind.i64.wrap ((k:Int)+n)=(k:Int)+n:=zI _ ⟨by omega,by omega⟩
   have hw2:IntKind.i64.wrap ((k:Int)+n-1)=(k:Int)+n-1:=zI _ ⟨by omega,by omega⟩
   have hw3:IntKind.i64.wrap ((k:Int)+1)=(k:Int)+1:=zI _ ⟨by omega,by omega⟩
   have hk1:(k+n-1)%n<n:=zP _ (by omega)
   have hk2:(k+1)%n<n:=zP _ (by omega)
   obtain⟨fl,hfl⟩:∃fl,(m !=0)=fl:=⟨_,rfl⟩
   have HFL:=hid hfl
   clear hm hfl
   generalize (k+n-1)%n=i' at*
   generalize (k+1)%n=k' at*
   generalize hxj:numS (cor l k).x=xj at HCj HF
   generalize hyj:numS (cor l k).y=yj at HCj HF
   generalize numS (cor l (k+n-1)).x=xi at HCi HF
   generalize numS (cor l (k+n-1)).y=yi at HCi HF
   generalize numS (cor l (k+1)).x=xk at HCk HF
   generalize numS (cor l (k+1)).y=yk at HCk HF
   have HXY:=hid (⟨hxj,hyj⟩:numS (cor l k).x=xj/\numS (cor l k).y=yj);clear hxj hyj
   go_wp2_with fail
   refine zbl (λ_ W=>qL w W/\W.ownsRow w.heap.size 25 2 (.slice q (z3o l k).length c) (z3o l k).length (z3k (z3o l k))) (by kernel_rfl) (by kernel_rfl) ⟨hB.out.drew,zcj (zac (zM _ wr).drew) hO.out⟩ ?_
   refine qR (.slice (some ⟨b,off,none⟩) n cap) ?_;simp only[zzQ]
   refine qR (.int .i64 (k:Int)) ?_;simp only[zzQ]
   refine qR (.int .i64 (n:Int)) ?_;simp only[zzQ]
   refine qR (.int .i64 ((k:Int)+n)) ?_;simp only[zzQ]
   refine qR (.int .i64 ((k:Int)+n-1)) ?_;simp only[zzQ]
   refine qR (.int .i64 (n:Int)) ?_;simp only[zzQ]
   refine qR (.int .i64 (i':Int)) ?_;simp only[zzQ]
   refine qR (.pointer (some ⟨b,off+i'*2,none⟩)) ?_;simp only[zzQ]
   refine qR (.agg #[St xi,St yi]) ?_ (hy:=λf W' hf h=>by obtain⟨c0,c1⟩:=HCi.out _ h.1;go_simp);simp only[zzQ]
   refine qR (.slice (some ⟨b,off,none⟩) n cap) ?_;simp only[zzQ]
   refine qR (.int .i64 (k:Int)) ?_;simp only[zzQ]
   refine qR (.pointer (some ⟨b,off+k*2,none⟩)) ?_;simp only[zzQ]
   refine qR (.agg #[St xj,St yj]) ?_ (hy:=λf W' hf h=>by obtain⟨c0,c1⟩:=HCj.out _ h.1;go_simp);simp only[zzQ]
   refine qR (.slice (some ⟨b,off,none⟩) n cap) ?_;simp only[zzQ]
   refine qR (.int .i64 (k:Int)) ?_;simp only[zzQ]
   refine qR (.int .i64 ((k:Int)+1)) ?_;simp only[zzQ]
   refine qR (.int .i64 (n:Int)) ?_;simp only[zzQ]
   refine qR (.int .i64 (k':Int)) ?_;simp only[zzQ]
   refine qR (.pointer (some ⟨b,off+k'*2,none⟩)) ?_;simp only[zzQ]
   refine qR (.agg #[St xk,St yk]) ?_ (hy:=λf W' hf h=>by obtain⟨c0,c1⟩:=HCk.out _ h.1;go_simp);simp only[zzQ]
   refine zar (.int .i64 m) (by rfl) (λf W' hf h C' hC'=>by
    go_simp
    refine(HF.out _ (HW.out.below h.1)).mono ?_
    rintro e w' ⟨rfl,hb⟩
    exact⟨rfl,hC' _ ⟨h.1.trans (hb.mono h.1.size),zcj (zac hb) h.2⟩⟩) ?_
   try simp only[zzQ]
   refine qR (.bool fl) ?_ (hy:=λf W' hf h=>by have h0:=HFL.out;go_simp);simp only[zzQ]
   refine zck λf W5 hf h5=>?_
   have HS5:=hid h5
   clear hf h5 hB hO HCi HCk HF
   cases fl
   case false=>
    have HK:=hid (show z3o l (k+1)=z3o l k by rw[z35,if_pos (by rw[HFL0.out];have:=HFL.out;simpa using this)])
    generalize z3o l k=acc at*
    go_wp2_with fail
    go_roundw
    case rel=>exact⟨k+1,q,c,by omega,by go_num,by rw[HK.out],HS5.out.1,by rw[HK.out];exact HS5.out.2⟩
    case measure=>simp[zL];omega
   case true=>
    have HK:=hid (show z3o l (k+1)=z3o l k++[cor l k] by rw[z35,if_neg (by rw[HFL0.out];have:=HFL.out;simpa using this)])
    have HLN:=hid (show(z3o l k).length<=k by unfold z3o;rw[List.length_map];exact Nat.le_trans (List.length_filter_le _ _) (by simp))
    generalize z3o l k=acc at*
    obtain⟨g0,g1⟩:=HCj.out _ HS5.out.1
    obtain⟨i0,hi,hz0,hz1,hz2⟩:=info_parts z4u
    have HD:=hid (⟨hi,hz0,hz1,hz2⟩:_/\_/\_/\_)
    clear hi hz0 hz1 hz2
    have hba:qL W5 (W5.alloc (.cells #[St xj,St yj] 25)):=(zM _ W5).alloc (zN _) _
    have HLA:=hid (⟨HS5.out.1.trans (hba.mono HS5.out.1.size),zcj (zac hba) HS5.out.2,(by have:=hba.size;have:=HS5.out.1.size;omega)⟩:qL w (W5.alloc (.cells #[St xj,St yj] 25))/\(W5.alloc (.cells #[St xj,St yj] 25)).ownsRow w.heap.size 25 2 (.slice q acc.length c) acc.length (z3k acc)/\w.heap.size<=(W5.alloc (.cells #[St xj,St yj] 25)).heap.size)
    clear hba
    go_wp2_with (at_builtin;refine wpList_append_own_at _ rfl _ _ 22 rfl w.heap.size 25 i0 (.agg #[St [],St []]) 2 32 Tryz.underlying22 HD.out.1 HD.out.2.1 HD.out.2.2.1 HD.out.2.2.2 rfl (by decide) (.slice q acc.length c) acc.length (z3k acc) rfl HLA.out.2.1 ⟨W5.heap.size,0,none⟩ 1 1 [St xj,St yj] rfl rfl (z7w _ _ _ _) (z4n _ _) (by have:=HLN.out;unfold maxLen;omega) (by have:=HLN.out;omega) HLA.out.2.2 ?_)
    intro v' w1 hown' hgrow hnil hat
    obtain⟨q',c',rfl⟩:=z3z hown'
    have hbel:qL w w1:=HLA.out.1.grown hgrow HLA.out.2.2 (λg e=>(HLA.out.2.1.lt g e).1)
    have HB1:=hid hbel
    have HO1:=hid (show w1.ownsRow w.heap.size 25 2 (.slice q' (acc.length+1) c') (acc++[cor l k]).length (z3k (acc++[cor l k])) by
     rw[zU,z39];show w1.ownsRow _ _ 2 _ (acc.length+1) (z3k acc++[St (numS (cor l k).x),St (numS (cor l k).y)]);rw[HXY.out.1,HXY.out.2];exact hown')
    clear hown' hgrow hnil hat hbel HLA
    go_wp2_with fail
    go_roundw
    case rel=>exact⟨k+1,q',c',by omega,by go_num,by rw[HK.out,zU];rfl,HB1,by rw[HK.out];have:=HO1.out;rw[zU] at this⊢;exact hid this⟩
    case measure=>simp[zL];omega
  ·obtain rfl:n=k:=by omega
   have HO2:=hid (show wr.ownsRow w.heap.size 25 2 (.slice q o.length c) o.length (z3k o) by
    have e:z3o l n=o:=by rw[HO.out];unfold z3n;rw[<-HN.out]
    rw[<-e];exact hO.out)
   have HL2:=hid (show(z3o l n).length=o.length/\o.length<=n by
    have e:z3o l n=o:=by rw[HO.out];unfold z3n;rw[<-HN.out]
    rw[e]
    exact⟨rfl,by rw[HN.out,HO.out];exact z5f l⟩)
   clear hO
   obtain⟨g,c',hqc,hg,hcs⟩:=z4s HO2.out h0
   obtain⟨rfl,rfl⟩:q=some ⟨g,0,none⟩/\c=c':=by cases hqc;exact⟨rfl,rfl⟩
   have HCs:=hid hcs
   have HB:=hB
   clear hcs hqc hB
   rw[HL2.out.1]
   have hNn:=HL2.out.2
   obtain⟨N,hN⟩:∃N,N=o.length:=⟨_,rfl⟩
   rw[<-hN] at h0 hNn HCs HO2⊢
   have HNO:=hid hN
   clear hN HL2 TU HC
   have hg1:=hid hg
   clear hg
   generalize wr=w1 at*
   go_wp2_with fail
   go_loopw [7,6] (λi f wr=>∃(k:Nat),1<=k/\k<=N/\i=.int .i64 (k:Int)/\f=.int .i64 ((z3l o k:Nat):Int)/\Hid (qL w1 wr))
    (λi _ _=>N-(zL i).toNat)
   case atStart=>exact⟨1,by omega,by omega,rfl,by rw[show z3l o 1=0 by show(if ordP (cor o 0) (cor o 0)<0 then 0 else 0)=0;split<;>rfl];rfl,zM _ _⟩
   case round=>
    obtain⟨k,hk1,hk,rfl,rfl,hB⟩:=hrel
    by_cases hlt:k<N
    ·have hcs:=HCs.out
     have HCj:=hid λW h=>hcs W h k
     rw[zQ hlt] at HCj
     have hll:z3l o k<N:=by rw[HNO.out];exact(z4f (by rw[<-HNO.out];exact h0) k (by rw[<-HNO.out];exact hk)).1
     have HCf:=hid λW h=>hcs W h (z3l o k)
     rw[zQ hll] at HCf
     have hor:=OR.out k (z3l o k)
     have HL:=hid (show z3l o (k+1)=if ordP (cor o k) (cor o (z3l o k))<0 then k else z3l o k from rfl)
     unfold ptV at hor
     generalize z3l o k=f1 at*
     generalize hm:ordP (cor o k) (cor o f1)=m at*
     obtain⟨lb,hlb⟩:∃lb,decide (m<0)=lb:=⟨_,rfl⟩
     have HM:=hid hlb
     have HOR:=hid hor
     clear hor hcs hm hlb
     generalize numS (cor o k).x=xk at HCj HOR
     generalize numS (cor o k).y=yk at HCj HOR
     generalize numS (cor o f1).x=xf at HCf HOR
     generalize numS (cor o f1).y=yf at HCf HOR
     have hwr:IntKind.i64.wrap ((k:Int)+1)=(k:Int)+1:=zI _ ⟨by omega,by omega⟩
     go_wp2_with fail
     refine zbl (λ_ W=>qL w1 W) (by kernel_rfl) (by kernel_rfl) hB.out.drew ?_
     refine qR (.slice (some ⟨g,0,none⟩) N c) ?_;simp only[zzQ]
     refine qR (.int .i64 (k:Int)) ?_;simp only[zzQ]
     refine qR (.pointer (some ⟨g,k*2,none⟩)) ?_;simp only[zzQ]
     refine qR (.agg #[St xk,St yk]) ?_ (hy:=λf W' hf h=>by obtain⟨c0,c1⟩:=HCj.out _ h;go_simp);simp only[zzQ]
     refine qR (.slice (some ⟨g,0,none⟩) N c) ?_;simp only[zzQ]
     refine qR (.int .i64 (f1:Int)) ?_;simp only[zzQ]
     refine qR (.pointer (some ⟨g,f1*2,none⟩)) ?_;simp only[zzQ]
     refine qR (.agg #[St xf,St yf]) ?_ (hy:=λf W' hf h=>by obtain⟨c0,c1⟩:=HCf.out _ h;go_simp);simp only[zzQ]
     refine zar (.int .i64 m) (by rfl) (λf W' hf h C' hC'=>by
      go_simp
      refine(HOR.out _ (HW.out.below (HB.out.trans (h.mono HB.out.size)))).mono ?_
      rintro e w' ⟨rfl,hb⟩
      exact⟨rfl,hC' _ (h.trans (hb.mono h.size))⟩) ?_
     try simp only[zzQ]
     refine qR (.bool lb) ?_ (hy:=λf W' hf h=>by have h0:=HM.out;go_simp);simp only[zzQ]
     refine zck λf W5 hf h5=>?_
     have HS5:=hid h5
     clear hf h5 HCf HCj HOR hB
     cases lb
     case true=>
      have HL2:=hid (show z3l o (k+1)=k by rw[HL.out,if_pos (of_decide_eq_true HM.out)])
      go_wp2_with fail
      go_roundw
      case rel=>exact⟨k+1,by omega,by omega,by go_num,by rw[HL2.out],HS5⟩
      case measure=>simp[zL];omega
     case false=>
      have HL2:=hid (show z3l o (k+1)=f1 by rw[HL.out,if_neg (of_decide_eq_false HM.out)])
      go_wp2_with fail
      go_roundw
      case rel=>exact⟨k+1,by omega,by omega,by go_num,by rw[HL2.out],HS5⟩
      case measure=>simp[zL];omega
    ·obtain rfl:N=k:=by omega
     have hF:z3l o N<N:=by have:=(z4f (o:=o) (by rw[<-HNO.out];exact h0) o.length (zN _)).1;rwa [<-HNO.out] at this
     have hcs:=HCs.out
     have HCf:=hid λW h=>hcs W h (z3l o N)
     have HCp:=hid λW h=>hcs W h (z3l o N+N-1)
     have HCn:=hid λW h=>hcs W h (z3l o N+1)
     rw[zQ hF] at HCf
     have htu:=TV.out (z3l o N+N-1) (z3l o N) (z3l o N+1)
     unfold ptV at htu
     have HCO:=hid (show zlx o (z3l o N) (if turn (cor o (z3l o N+N-1)) (cor o (z3l o N)) (cor o (z3l o N+1))<0 then N-1 else 1) N=z31 o by
      have:=ybp o (by rw[<-HNO.out];exact h0)
      rw[<-HNO.out] at this;exact this)
     generalize z3l o N=F at*
     generalize hm:turn (cor o (F+N-1)) (cor o F) (cor o (F+1))=m at*
     obtain⟨lb,hlb⟩:∃lb,decide (m<0)=lb:=⟨_,rfl⟩
     have HM:=hid hlb
     have HTU:=hid htu
     have ht:=z5z (k:=F) (n:=N) (by omega)
     have ht2:=z44 F N
     have hn0:¬N=0:=by omega
     have hw1:IntKind.i64.wrap ((F:Int)+N)=(F:Int)+N:=zI _ ⟨by omega,by omega⟩
     have hw2:IntKind.i64.wrap ((F:Int)+N-1)=(F:Int)+N-1:=zI _ ⟨by omega,by omega⟩
     have hw3:IntKind.i64.wrap ((F:Int)+1)=(F:Int)+1:=zI _ ⟨by omega,by omega⟩
     have hi1:(F+N-1)%N<N:=zP _ (by omega)
     have hi2:(F+1)%N<N:=zP _ (by omega)
     clear htu hcs hm hlb
     generalize (F+N-1)%N=i1 at*
     generalize (F+1)%N=i2 at*
     generalize numS (cor o (F+N-1)).x=xp at HCp HTU
     generalize numS (cor o (F+N-1)).y=yp at HCp HTU
     generalize numS (cor o F).x=xf at HCf HTU
     generalize numS (cor o F).y=yf at HCf HTU
     generalize numS (cor o (F+1)).x=xn at HCn HTU
     generalize numS (cor o (F+1)).y=yn at HCn HTU
     go_wp2_with fail
     refine zbl (λ_ W=>qL w1 W) (by kernel_rfl) (by kernel_rfl) hB.out.drew ?_
     refine qR (.slice (some ⟨g,0,none⟩) N c) ?_;simp only[zzQ]
     refine qR (.int .i64 (F:Int)) ?_;simp only[zzQ]
     refine qR (.int .i64 (N:Int)) ?_;simp only[zzQ]
     refine qR (.int .i64 ((F:Int)+N)) ?_;simp only[zzQ]
     refine qR (.int .i64 ((F:Int)+N-1)) ?_;simp only[zzQ]
     refine qR (.int .i64 (N:Int)) ?_;simp only[zzQ]
     refine qR (.int .i64 (i1:Int)) ?_;simp only[zzQ]
     refine qR (.pointer (some ⟨g,i1*2,none⟩)) ?_;simp only[zzQ]
     refine qR (.agg #[St xp,St yp]) ?_ (hy:=λf W' hf h=>by obtain⟨c0,c1⟩:=HCp.out _ h;go_simp);simp only[zzQ]
     refine qR (.slice (some ⟨g,0,none⟩) N c) ?_;simp only[zzQ]
     refine qR (.int .i64 (F:Int)) ?_;simp only[zzQ]
     refine qR (.pointer (some ⟨g,F*2,none⟩)) ?_;simp only[zzQ]
     refine qR (.agg #[St xf,St yf]) ?_ (hy:=λf W' hf h=>by obtain⟨c0,c1⟩:=HCf.out _ h;go_simp);simp only[zzQ]
     refine qR (.slice (some ⟨g,0,none⟩) N c) ?_;simp only[zzQ]
     refine qR (.int .i64 (F:Int)) ?_;simp only[zzQ]
     refine qR (.int .i64 ((F:Int)+1)) ?_;simp only[zzQ]
     refine qR (.int .i64 (N:Int)) ?_;simp only[zzQ]
     refine qR (.int .i64 (i2:Int)) ?_;simp only[zzQ]
     refine qR (.pointer (some ⟨g,i2*2,none⟩)) ?_;simp only[zzQ]
     refine qR (.agg #[St xn,St yn]) ?_ (hy:=λf W' hf h=>by obtain⟨c0,c1⟩:=HCn.out _ h;go_simp);simp only[zzQ]
     refine zar (.int .i64 m) (by rfl) (λf W' hf h C' hC'=>by
      go_simp
      refine(HTU.out _ (HW.out.below (HB.out.trans (h.mono HB.out.size)))).mono ?_
      rintro e w' ⟨rfl,hb⟩
      exact⟨rfl,hC' _ (h.trans (hb.mono h.size))⟩) ?_
     try simp only[zzQ]
     refine qR (.bool lb) ?_ (hy:=λf W' hf h=>by have h0:=HM.out;go_simp);simp only[zzQ]
     refine zck λf W6 hf h5=>?_
     have HB6:=hid h5
     clear hf h5 HCf HCp HCn HTU hB OR TV ht ht2 hw1 hw2 hw3 hi1 hi2
     have HC6:=hid λW (h:qL W6 W) k=>HCs.out W (HB6.out.trans (h.mono HB6.out.size)) k
     have HB7:=hid (HB.out.trans (HB6.out.mono HB.out.size))
     clear HCs HB HB6 HO2
     obtain⟨s,hs⟩:∃s:Nat,s=if m<0 then N-1 else 1:=⟨_,rfl⟩
     rw[<-hs] at HCO
     have hs1:1<=s\/s=N-1:=by rw[hs];split<;>omega
     have hsN:s<=4096:=by rw[hs];split<;>omega
     have hws:lb=true->((N:Int)-1)=(s:Int):=λh=>by
      subst h
      have:=of_decide_eq_true HM.out
      rw[hs,if_pos this];omega
     have hws2:lb=false->(1:Int)=(s:Int):=λh=>by
      subst h
      have:=of_decide_eq_false HM.out
      rw[hs,if_neg this];rfl
     have HS1:=hid hws;have HS2:=hid hws2
     have hw4:IntKind.i64.wrap ((N:Int)-1)=(N:Int)-1:=zI _ ⟨by omega,by omega⟩
     clear hws hws2 hs hs1 HM
     have hal:qL W6 (W6.alloc (.cells #[] 25)):=(zM _ W6).alloc (zN _) _
     have HB8:=hid hal
     have HO8:=hid (yaj W6)
     clear hal
     cases lb
     case' true=>
      have HE9:=hid (HS1.out rfl)
      go_wp2_with fail
     case' false=>
      have HE9:=hid (HS2.out rfl)
      go_wp2_with fail
     all_goals
      clear HS1 HS2
      obtain⟨W8,hW8⟩:∃W8,W8=W6.alloc (.cells #[] 25):=⟨_,rfl⟩
      rw[<-hW8] at HB8 HO8⊢
      clear hW8
      go_loopw [10,9] (λi v wr=>∃(k:Nat) (q:Option Addr) (c2:Nat),k<=N/\i=.int .i64 (k:Int)/\v=.slice q k c2/\Hid (qL W6 wr)/\Hid (wr.ownsRow W6.heap.size 25 2 (.slice q k c2) k (z3k (zlx o F s k))))
       (λi _ _=>N-(zL i).toNat)
      case atStart=>exact⟨0,some ⟨W6.heap.size,0,none⟩,0,zR _,rfl,rfl,HB8,HO8⟩
      case round=>
       obtain⟨k,q,c2,hk,rfl,rfl,hB,hO⟩:=hrel
       clear HB8 HO8
       by_cases hlt:k<N
       ·obtain⟨c0,c1⟩:=HC6.out wr hB.out (F+k*s)
        have hks:k*s<=4096*4096:=Nat.mul_le_mul (by omega) hsN
        have hm1:IntKind.i64.wrap ((k:Int)*s)=(k:Int)*s:=zI _ (by
         rw[<-Int.natCast_mul];constructor<;>omega)
        have hm2:IntKind.i64.wrap ((F:Int)+(k:Int)*s)=(F:Int)+(k:Int)*s:=zI _ (by
         rw[<-Int.natCast_mul];constructor<;>omega)
        have ht:((F:Int)+(k:Int)*s).tmod (N:Int)=(((F+k*s)%N:Nat):Int):=by
         rw[<-Int.natCast_mul,<-Int.natCast_add,Int.tmod_eq_emod_of_nonneg (by omega)];rfl
        have hi:(F+k*s)%N<N:=zP _ (by omega)
        have hw3:IntKind.i64.wrap ((k:Int)+1)=(k:Int)+1:=zI _ ⟨by omega,by omega⟩
        have HSC:=hid (ybo o F s k)
        clear hks
        rw[<-HE9.out] at hm1 hm2 ht
        try simp only[Int.mul_one] at hm1 hm2 ht
        generalize (F+k*s)%N=i' at*
        generalize hxj:numS (cor o (F+k*s)).x=xj at c0
        generalize hyj:numS (cor o (F+k*s)).y=yj at c1
        have HXY:=hid (⟨hxj,hyj⟩:numS (cor o (F+k*s)).x=xj/\numS (cor o (F+k*s)).y=yj);clear hxj hyj
        obtain⟨i0,hi1,hz0,hz1,hz2⟩:=info_parts z4u
        have HD:=hid (⟨hi1,hz0,hz1,hz2⟩:_/\_/\_/\_)
        clear hi1 hz0 hz1 hz2
        have hba:qL wr (wr.alloc (.cells #[St xj,St yj] 25)):=(zM _ wr).alloc (zN _) _
        have HLA:=hid (⟨hB.out.trans (hba.mono hB.out.size),zcj (zac hba) hO.out,(by have:=hba.size;have:=hB.out.size;omega)⟩:qL W6 (wr.alloc (.cells #[St xj,St yj] 25))/\(wr.alloc (.cells #[St xj,St yj] 25)).ownsRow W6.heap.size 25 2 (.slice q k c2) k (z3k (zlx o F s k))/\W6.heap.size<=(wr.alloc (.cells #[St xj,St yj] 25)).heap.size)
        clear hba hB hO
        go_wp2_with (at_builtin;refine wpList_append_own_at _ rfl _ _ 22 rfl W6.heap.size 25 i0 (.agg #[St [],St []]) 2 32 Tryz.underlying22 HD.out.1 HD.out.2.1 HD.out.2.2.1 HD.out.2.2.2 rfl (by decide) (.slice q k c2) k (z3k (zlx o F s k)) rfl HLA.out.2.1 ⟨wr.heap.size,0,none⟩ 1 1 [St xj,St yj] rfl rfl (z7w _ _ _ _) (z4n _ _) (by unfold maxLen;omega) (by omega) HLA.out.2.2 ?_)
        intro v' w9 hown' hgrow hnil hat
        obtain⟨q',c',rfl⟩:=z3z hown'
        have hbel:qL W6 w9:=HLA.out.1.grown hgrow HLA.out.2.2 (λg e=>(HLA.out.2.1.lt g e).1)
        have HB9:=hid hbel
        have HO9:=hid (show w9.ownsRow W6.heap.size 25 2 (.slice q' (k+1) c') (k+1) (z3k (zlx o F s (k+1))) by
         rw[HSC.out,z39];show w9.ownsRow _ _ 2 _ (k+1) (z3k (zlx o F s k)++[St (numS (cor o (F+k*s)).x),St (numS (cor o (F+k*s)).y)]);rw[HXY.out.1,HXY.out.2];exact hown')
        clear hown' hgrow hnil hat hbel HLA
        go_wp2_with fail
        go_roundw
        case rel=>exact⟨k+1,q',c',by omega,by go_num,rfl,HB9,HO9⟩
        case measure=>simp[zL];omega
       ·obtain rfl:N=k:=by omega
        have HO9:=hid (show wr.ownsRow w.heap.size 25 2 (.slice q N c2) N (z3k (z31 o)) by
         rw[<-HCO.out];exact z5a hO.out HB7.out.size)
        have HB9:=hid (HB7.out.trans (hB.out.mono HB7.out.size))
        clear hO hB
        go_wp2_with fail
        go_ret
        exact⟨_,rfl,by rw[<-HNO.out];exact HO9.out,HB9.out⟩
theorem z9t (p:Option Addr) (cap:Nat) (l:List Pt) (h3:3<=l.length) (hlen:l.length<=4096) (hz:∀q∈l,szP q 36) (h:z3q l) (w:zA) (hw:Wd w) (hr:RowPts p l w):
 zC zF 43 #[.slice p l.length cap] w λe w'=>∃v,e=.returned v/\w'.ownsRow w.heap.size 25 2 v (z3p l).length (z3k (z3p l))/\zB w.heap.size w w':=by
 have k0:=List.length_pos_iff.2 (zkl h3 h)
 have e:(z3p l).length=(z3n l).length:=z4h _ k0
 obtain⟨b,off,rfl,hc⟩:=z4j hr (by omega)
 have z1:∀i,szP (cor l i) 36:=z49 hz (by omega)
 have z2:∀i,szP (cor (z3n l) i) 36:=z49 (λq hq=>hz q ((z5m l).subset hq)) k0
 rw[e]
 exact yat b off cap l (z3n l) h3 hlen rfl k0 w (hid hw)
  (hid λi j k W hW=>zh8 _ _ _ 36 (by omega) (by omega) (z1 _) (z1 _) (z1 _) W hW) (hid λi j k W hW=>zh8 _ _ _ 36 (by omega) (by omega) (z2 _) (z2 _) (z2 _) W hW)
  (hid λi j W hW=>ycv _ _ 36 (by omega) (by omega) (z2 _) (z2 _) W hW) (hid hc)
def GreP (w:zA) (G:Prop) (e:Ending) (w':zA):Prop:=∃b:Bool,e=.returned (.bool b)/\(b=false->G)/\zB w.heap.size w w'
theorem GreP.yes {w w':zA} {G:Prop} (hb:qL w w'):GreP w G (.returned (.bool true)) w':=⟨true,rfl,λh=>(by cases h),hb⟩
theorem GreP.no {w w':zA} {G:Prop} (h:G) (hb:qL w w'):GreP w G (.returned (.bool false)) w':=⟨false,rfl,λ_=>h,hb⟩
structure PlcQ (p:Option Addr) (cap n:Nat) (l:List (List UInt8×List UInt8)) (p':Option Addr) (cap' n':Nat) (m:List (List UInt8×List UInt8)) (x1 y1 x2 y2 x3 y3 x4 y4:List UInt8) (x e g k i:Int) (is:Bool):Prop where
 I1:Hid (∀W:zA,Wd W->RowTx p l W->zC zF 8 #[.slice p n cap,.agg #[St x1,St y1]] W λz w'=>z=.returned (.tuple #[.int .i64 x,.int .i64 e])/\zB W.heap.size W w')
 I2:Hid (∀W:zA,Wd W->RowTx p l W->zC zF 9 #[.slice p n cap,.agg #[St x1,St y1]] W λz w'=>z=.returned (.tuple #[.int .i64 x,.int .i64 e])/\zB W.heap.size W w')
 S1:Hid (∀W:zA,Wd W->RowTx p l W->RowTx p' m W->zC zF 10 #[.slice p n cap,.slice p' n' cap'] W λz w'=>z=.returned (.tuple #[.bool is,.int .i64 g])/\zB W.heap.size W w')
 S2:Hid (∀W:zA,Wd W->RowTx p l W->RowTx p' m W->zC zF 11 #[.slice p n cap,.slice p' n' cap'] W λz w'=>z=.returned (.tuple #[.bool is,.int .i64 g])/\zB W.heap.size W w')
 M1:Hid (∀W:zA,Wd W->zC zF 12 #[.agg #[St x1,St y1],.agg #[St x2,St y2],.agg #[St x3,St y3],.agg #[St x4,St y4]] W λz w'=>z=.returned (.tuple #[.int .i64 k,.int .i64 i])/\zB W.heap.size W w')
 M2:Hid (∀W:zA,Wd W->zC zF 13 #[.agg #[St x1,St y1],.agg #[St x2,St y2],.agg #[St x3,St y3],.agg #[St x4,St y4]] W λz w'=>z=.returned (.tuple #[.int .i64 k,.int .i64 i])/\zB W.heap.size W w')
theorem yau (p p':Option Addr) (cap cap' n n':Nat) (l m:List (List UInt8×List UInt8)) (x1 y1 x2 y2 x3 y3 x4 y4:List UInt8) (G1 G2 G3:Prop)
 (GA:Hid (∀W:zA,RowTx p l W->zC zF 6 #[.slice p n cap] W (GreP W G1)))
 (GB:Hid (∀W:zA,RowTx p' m W->zC zF 6 #[.slice p' n' cap'] W (GreP W G2)))
 (GC:Hid (∀W:zA,zC zF 6 #[.slice (some ⟨W.heap.size,0,none⟩) 4 4] (W.alloc (.cells #[St x1,St y1,St x2,St y2,St x3,St y3,St x4,St y4] 25)) (GreP W G3)))
 (w:zA) (HW:Hid (Wd w)) (HP:Hid (RowTx p l w)) (HP':Hid (RowTx p' m w)) (AW:Hid (∀W:zA,qL w W->qJ 7 #[] W (.bool true)))
 (GD:Hid (G1->G2->G3->∃x e g k i is,PlcQ p cap n l p' cap' n' m x1 y1 x2 y2 x3 y3 x4 y4 x e g k i is)):
 qJ 3 #[.slice p n cap,.slice p' n' cap',.agg #[St x1,St y1],.agg #[St x2,St y2],.agg #[St x3,St y3],.agg #[St x4,St y4]] w (.bool true):=by
 have hinit:=FourS.start w x1 y1 x2 y2 x3 y3 x4 y4
 obtain⟨i1,i2,i3,i4,i5,i6,i7,i8⟩:=hinit.cells'
 obtain⟨W1,hW1⟩:∃W1,W1=(((w.alloc (.cells #[St x1,St y1] 25)).alloc (.cells #[St x2,St y2] 25)).alloc (.cells #[St x3,St y3] 25)).alloc (.cells #[St x4,St y4] 25):=⟨_,rfl⟩
 rw[<-hW1] at hinit
 have K0:=hid hinit;clear hinit
 have HW1:=hid hW1;clear hW1
 go_enter Tryz.func3,Tryz.ntmps3
 go_wp2_with fail
 rw[<-HW1.out]
 clear i1 i2 i3 i4 i5 i6 i7 i8 HW1
 refine(GA.out W1 (HP.out.keep (zac K0.out.bel))).mono ?_
 rintro e w1 ⟨t,rfl,ht,hb1⟩
 have K1:=hid (K0.out.next hb1);have HT1:=hid ht;clear hb1 ht GA K0
 obtain⟨i1,i2,i3,i4,i5,i6,i7,i8⟩:=K1.out.cells'
 cases t
 case true=>
  go_wp2_with fail
  refine(AW.out w1 K1.out.bel).mono ?_
  rintro e w4 ⟨rfl,hb4⟩
  have HB4:=hid (K1.out.next hb4).bel
  clear hb4 i1 i2 i3 i4 i5 i6 i7 i8
  go_wp2_with fail
  go_ret
  exact⟨rfl,HB4.out⟩
 case false=>
 go_wp2_with fail
 clear i1 i2 i3 i4 i5 i6 i7 i8
 refine(GB.out w1 (HP'.out.keep (zac K1.out.bel))).mono ?_
 rintro e w2 ⟨t,rfl,ht,hb2⟩
 have K2:=hid (K1.out.next hb2);have HT2:=hid ht;clear hb2 ht GB K1
 obtain⟨i1,i2,i3,i4,i5,i6,i7,i8⟩:=K2.out.cells'
 cases t
 case true=>
  go_wp2_with fail
  refine(AW.out w2 K2.out.bel).mono ?_
  rintro e w4 ⟨rfl,hb4⟩
  have HB4:=hid (K2.out.next hb4).bel
  clear hb4 i1 i2 i3 i4 i5 i6 i7 i8
  go_wp2_with fail
  go_ret
  exact⟨rfl,HB4.out⟩
 case false=>
 go_wp2_with fail
 clear i1 i2 i3 i4 i5 i6 i7 i8
 refine(GC.out w2).mono ?_
 rintro e w3 ⟨t,rfl,ht,hb3⟩
 have K3:=hid (K2.out.next hb3);have HT3:=hid ht;clear hb3 ht GC K2
 obtain⟨i1,i2,i3,i4,i5,i6,i7,i8⟩:=K3.out.cells'
 cases t
 case true=>
  go_wp2_with fail
  refine(AW.out w3 K3.out.bel).mono ?_
  rintro e w4 ⟨rfl,hb4⟩
  have HB4:=hid (K3.out.next hb4).bel
  clear hb4 i1 i2 i3 i4 i5 i6 i7 i8
  go_wp2_with fail
  go_ret
  exact⟨rfl,HB4.out⟩
 case false=>
 obtain⟨x,e,g,k,i,is,I1,I2,S1,S2,M1,M2⟩:=GD.out (HT1.out (by trivial)) (HT2.out (by trivial)) (HT3.out (by trivial))
 clear GD HT1 HT2 HT3
 go_wp2_with fail
 clear i1 i2 i3 i4 i5 i6 i7 i8
 refine(I1.out w3 (HW.out.below K3.out.bel) (HP.out.keep (zac K3.out.bel))).mono ?_
 rintro z w4 ⟨rfl,hb⟩
 have K4:=hid (K3.out.next hb);clear hb K3 I1
 obtain⟨i1,i2,i3,i4,i5,i6,i7,i8⟩:=K4.out.cells'
 go_wp2_with fail
 clear i1 i2 i3 i4 i5 i6 i7 i8
 refine(I2.out w4 (HW.out.below K4.out.bel) (HP.out.keep (zac K4.out.bel))).mono ?_
 rintro z w5 ⟨rfl,hb⟩
 have K5:=hid (K4.out.next hb);clear hb K4 I2
 obtain⟨i1,i2,i3,i4,i5,i6,i7,i8⟩:=K5.out.cells'
 go_wp2_with fail
 clear i1 i2 i3 i4 i5 i6 i7 i8
 refine(S1.out w5 (HW.out.below K5.out.bel) (HP.out.keep (zac K5.out.bel)) (HP'.out.keep (zac K5.out.bel))).mono ?_
 rintro z w6 ⟨rfl,hb⟩
 have K6:=hid (K5.out.next hb);clear hb K5 S1
 obtain⟨i1,i2,i3,i4,i5,i6,i7,i8⟩:=K6.out.cells'
 go_wp2_with fail
 clear i1 i2 i3 i4 i5 i6 i7 i8
 refine(S2.out w6 (HW.out.below K6.out.bel) (HP.out.keep (zac K6.out.bel)) (HP'.out.keep (zac K6.out.bel))).mono ?_
 rintro z w7 ⟨rfl,hb⟩
 have K7:=hid (K6.out.next hb);clear hb K6 S2
 obtain⟨i1,i2,i3,i4,i5,i6,i7,i8⟩:=K7.out.cells'
 go_wp2_with fail
 clear i1 i2 i3 i4 i5 i6 i7 i8
 refine(M1.out w7 (HW.out.below K7.out.bel)).mono ?_
 rintro z w8 ⟨rfl,hb⟩
 have K8:=hid (K7.out.next hb);clear hb K7 M1
 obtain⟨i1,i2,i3,i4,i5,i6,i7,i8⟩:=K8.out.cells'
 go_wp2_with fail
 clear i1 i2 i3 i4 i5 i6 i7 i8
 refine(M2.out w8 (HW.out.below K8.out.bel)).mono ?_
 rintro z w9 ⟨rfl,hb⟩
 have K9:=hid (K8.out.next hb);clear hb K8 M2
 obtain⟨i1,i2,i3,i4,i5,i6,i7,i8⟩:=K9.out.cells'
 clear i1 i2 i3 i4 i5 i6 i7 i8
 have e1:(x==x)=true:=by simp
 have e2:(e==e)=true:=by simp
 have e3:(is==is)=true:=by simp
 have e4:(g==g)=true:=by simp
 have e5:(k==k)=true:=by simp
 have e6:(i==i)=true:=by simp
 go_wp2_with fail
 refine(AW.out w9 K9.out.bel).mono ?_
 rintro z w10 ⟨rfl,hb10⟩
 have HB10:=hid (K9.out.next hb10).bel;clear hb10 K9
 go_wp2_with fail
 go_ret
 exact⟨rfl,HB10.out⟩
def greW (a b:Int) (P:Prop):Prop:=
 (decide (20<a)=true/\decide (a<80)=true)\/
 ((decide (20<a)=false\/decide (20<a)=true/\decide (a<80)=false)/\
   ((decide (20<b)=true/\decide (b<80)=true)\/
    ((decide (20<b)=false\/decide (20<b)=true/\decide (b<80)=false)/\
      (decide (700<a)=true\/(decide (700<a)=false/\(decide (700<b)=true\/(decide (700<b)=false/\Hid P)))))))
theorem yc6 (a b:Int):greW a b (a<=700/\b<=700):=by
 unfold greW
 have h:∀c:Int,(decide (20<c)=true/\decide (c<80)=true)\/(decide (20<c)=false\/decide (20<c)=true/\decide (c<80)=false):=λc=>by
  cases h1:decide (20<c)
  ·exact .inr (.inl rfl)
  ·cases h2:decide (c<80)
   ·exact .inr (.inr ⟨rfl,rfl⟩)
   ·exact .inl ⟨rfl,rfl⟩
 refine(h a).imp id λh1=>⟨h1,(h b).imp id λh2=>⟨h2,?_⟩⟩
 cases h3:decide (700<a)
 ·refine .inr ⟨rfl,?_⟩
  cases h4:decide (700<b)
  ·exact .inr ⟨rfl,hid ⟨by have:=of_decide_eq_false h3;omega,by have:=of_decide_eq_false h4;omega⟩⟩
  ·exact .inl rfl
 ·exact .inl rfl
theorem zvv (p:Option Addr) (cap n:Nat) (l:List (List UInt8×List UInt8)) (HNB:Hid (n<=maxLen)) (w:zA) (HL:Hid (l.length=n)) (HP:Hid (RowTx p l w)):
 zC zF 6 #[.slice p n cap] w (GreP w (n<=10/\∀j,j<n->(ptOf l j).1.length<=700/\(ptOf l j).2.length<=700)):=by
 go_enter Tryz.func6,Tryz.ntmps6
 go_wp2_with fail
 go_loopw [3] (λi wr=>∃(k:Nat),k<=n/\i=.int .i64 (k:Int)/\wr=w/\Hid (∀j,j<k->(ptOf l j).1.length<=700/\(ptOf l j).2.length<=700))
  (λi _=>n-(zL i).toNat)
 case atStart=>exact⟨0,zR _,rfl,rfl,hid λj h=>absurd h (by omega)⟩
 case round=>
  obtain⟨k,hk,rfl,rfl,hG⟩:=hrel
  by_cases hlt:k<n
  ·obtain⟨b,off,hp,c0,c1⟩:=HP.out k (by rw[HL.out];exact hlt)
   subst hp
   have hw1:IntKind.i64.wrap ((k:Int)+1)=(k:Int)+1:=zI _ (by have:=HNB.out;unfold maxLen at this;omega)
   have HK:=hid λ(h:(ptOf l k).1.length<=700/\(ptOf l k).2.length<=700)=>(λj hj=>by
    by_cases e:j=k
    ·subst e;exact h
    ·exact hG.out j (by omega):∀j,j<k+1->(ptOf l j).1.length<=700/\(ptOf l j).2.length<=700)
   clear hG
   obtain⟨x,hx⟩:∃x:ByteArray,x=⟨(ptOf l k).1.toArray⟩:=⟨_,rfl⟩
   obtain⟨y,hy⟩:∃y:ByteArray,y=⟨(ptOf l k).2.toArray⟩:=⟨_,rfl⟩
   have lx:(x.size:Int)=((ptOf l k).1.length:Int):=by rw[hx];rfl
   have ly:(y.size:Int)=((ptOf l k).2.length:Int):=by rw[hy];rfl
   have hw:=yc6 (x.size:Int) (y.size:Int)
   have HK2:=hid λ(h:(x.size:Int)<=700/\(y.size:Int)<=700)=>HK.out ⟨by omega,by omega⟩
   change wr.cell? _=some (.string ⟨(ptOf l k).1.toArray⟩) at c0
   change wr.cell? _=some (.string ⟨(ptOf l k).2.toArray⟩) at c1
   rw[<-hx] at c0
   rw[<-hy] at c1
   clear lx ly hx hy HK
   unfold greW at hw
   rcases hw with⟨h1,h2⟩|⟨h1|⟨h1,h2⟩,⟨h3,h4⟩|⟨h3|⟨h3,h4⟩,h5|⟨h5,h6|⟨h6,HE⟩⟩⟩⟩
   all_goals
    go_wp2_with fail
    first
    |(go_ret;exact GreP.yes (zM _ _))
    |(go_roundw
      case rel=>exact⟨k+1,by omega,by go_num,by trivial,hid (HK2.out HE.out)⟩
      case measure=>simp[zL];omega)
  ·obtain rfl:n=k:=by omega
   have hw:decide (10<(n:Int))=true\/(decide (10<(n:Int))=false/\Hid (n<=10)):=by
    by_cases h:n<=10
    ·exact .inr ⟨decide_eq_false (by omega),hid h⟩
    ·exact .inl (decide_eq_true (by omega))
   rcases hw with h1|⟨h1,HE⟩
   ·go_wp2_with fail
    go_ret
    exact GreP.yes (zM _ _)
   ·go_wp2_with fail
    go_ret
    exact GreP.no ⟨HE.out,hG.out⟩ (zM _ _)
end Go.Proofs.YthfpmfdiamldoaaGreatDoor
