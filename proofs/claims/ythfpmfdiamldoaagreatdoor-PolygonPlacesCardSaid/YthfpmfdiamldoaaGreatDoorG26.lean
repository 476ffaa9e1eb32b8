/- polygon.canonical: the least corner. -/
import Derived.Test.YthfpmfdiamldoaaGreatDoorG25
import Derived.Lib.AppendZerosOnto
set_option maxRecDepth 100000
set_option maxHeartbeats 8000000
open Go renaming World → zA, Calls → zC
open Go.RowKit renaming Below → zB, intOf → zL
open Go.Proofs.Tryz renaming prog → zF
open Go.World renaming alloc_heap_new → zG
open Go.IntWalk renaming i64_in → zI
open Go.Joins renaming cell_of_block → zJ, block_setCell → zK
open Go.RowKit.Below renaming refl → zM
open Nat renaming le_refl → zN, mod_lt → zP, mod_eq_of_lt → zQ, zero_le → zR
open List renaming length_append → zU, length_take → zX, take_append_drop → yN
namespace Go.Proofs.YthfpmfdiamldoaaGreatDoor
section
open Go.RowKit Go.Shelf Lib Str Limb Geo
attribute [local go_sem] Oper.semAt_some
theorem z5o:∀(l:List Pt) (k:Nat),k<l.length->(z3k l)[k*2]? =some (St (numS (cor l k).x))/\(z3k l)[k*2+1]? =some (St (numS (cor l k).y)):=by
 intro l k h
 rw[z3r h]
 induction l generalizing k with
 |nil=>simp at h
 |cons a r ih=>
  cases k with
  |zero=>exact⟨rfl,rfl⟩
  |succ k=>
   have:=ih k (by simpa using h)
   rw[show(k+1)*2=k*2+1+1 by omega]
   exact this
theorem z30 {w:zA} {base:Nat} {t:TypeId} {s:Nat} {v:Value} {n:Nat} {xs:List Value} (h:w.ownsRow base t s v n xs) (hn:0<n):
 ∃g c,v=.slice (some ⟨g,0,none⟩) n c/\base<=g/\∀i u,xs[i]? =some u->w.cell? ⟨g,i,none⟩=some u:=by
 rcases h.2 with⟨_,e⟩|⟨g,cp,cur,e,hg1,hg2,_,_,hcs,htk⟩
 ·omega
 ·refine⟨g,cp,e,hg1,λi u hu=>?_⟩
  rw[zJ hg2,<-Array.getElem?_toList]
  rw[<-htk,List.getElem?_take] at hu
  split at hu
  ·exact hu
  ·cases hu
theorem z4s {W:zA} {B:Nat} {v:Value} {o:List Pt} (h:W.ownsRow B 25 2 v o.length (z3k o)) (h0:0<o.length):
 ∃g c,v=.slice (some ⟨g,0,none⟩) o.length c/\B<=g/\∀W':zA,qL W W'->∀k,W'.cell? ⟨g,k%o.length*2,none⟩=some (St (numS (cor o k).x))/\W'.cell? ⟨g,k%o.length*2+1,none⟩=some (St (numS (cor o k).y)):=by
 obtain⟨g,c,e,hg,hc⟩:=z30 h h0
 refine⟨g,c,e,hg,λW' hb k=>?_⟩
 obtain⟨h1,h2⟩:=z5o o (k%o.length) (zP _ h0)
 rw[zt4] at h1 h2
 have ck:=zac hb
 exact⟨ck.cell (hc _ _ h1),ck.cell (hc _ _ h2)⟩
structure BoxS (w1:zA) (A:Nat) (x y:List UInt8) (W:zA):Prop where
 bel:qL w1 W
 bx:W.heap[A]? =some (.cells #[St x,St y] 25 (0,0))
theorem BoxS.next {w1:zA} {A:Nat} {x y:List UInt8} {W W':zA} (h:BoxS w1 A x y W) (hb:qL W W'):BoxS w1 A x y W':=
 ⟨h.bel.trans (hb.mono h.bel.size),(hb.block _ (Array.getElem?_eq_some_iff.1 h.bx).1).trans h.bx⟩
theorem BoxS.cx {w1:zA} {A:Nat} {x y:List UInt8} {W:zA} (h:BoxS w1 A x y W):W.cell? ⟨A,0,none⟩=some (St x)/\W.cell? ⟨A,1,none⟩=some (St y):=by have:=h.bx;simp[World.cell?,this]
structure ConS (w:zA) (v:Value) (N:Nat) (x y:List Pt) (s1 s2:Value) (q:Nat×Value) (f:Nat->Bool) (W:zA):Prop where
 bel:qL w W
 own:W.ownsRow w.heap.size 25 2 v N (z3k x)
 nw:f 6=true->W.heap[q.1]? =some (.cells #[s1,s2] 22 (0,0))
 rs:f 7=true->W.ownsRow w.heap.size 25 2 q.2 N (z3k y)
section
variable {w W W':zA} {v s1 s2:Value} {N:Nat} {x y:List Pt} {q:Nat×Value} {f g:Nat->Bool}
theorem ConS.congr (h:ConS w v N x y s1 s2 q f W) (e6:g 6=f 6) (e7:g 7=f 7):ConS w v N x y s1 s2 q g W:=⟨h.bel,h.own,by rw[e6];exact h.nw,by rw[e7];exact h.rs⟩
theorem ConS.next (h:ConS w v N x y s1 s2 q f W) (hb:qL W W'):ConS w v N x y s1 s2 q f W':=
 ⟨h.bel.trans (hb.mono h.bel.size),zcj (zac hb) h.own,λk=>(hb.block _ (Array.getElem?_eq_some_iff.1 (h.nw k)).1).trans (h.nw k),λk=>zcj (zac hb) (h.rs k)⟩
theorem ConS.new (h:ConS w v N x y s1 s2 q f W) (e7:f 7=false) (g7:g 7=f 7):ConS w v N x y s1 s2 (W.heap.size,q.2) g (W.alloc (.cells #[s1,s2] 22)):=
 have hb:qL W (W.alloc (.cells #[s1,s2] 22)):=(zM _ W).alloc (zN _) _
 ⟨h.bel.trans (hb.mono h.bel.size),zcj (zac hb) h.own,λ_=>zG _ _,λk=>by rw[g7,e7] at k;cases k⟩
theorem ConS.res (h:ConS w v N x y s1 s2 q f W) (hb:qL W W') {u:Value} (hu:W'.ownsRow w.heap.size 25 2 u N (z3k y)) (e6:g 6=f 6):ConS w v N x y s1 s2 (q.1,u) g W':=
 ⟨(h.next hb).bel,(h.next hb).own,by rw[e6];exact(h.next hb).nw,λ_=>hu⟩
end
def catV (g N c F:Nat) (q:Nat×Value) (k:Nat):Value:=
 ([.slice (some ⟨g,0,none⟩) N c,.int .i64 (F:Int),.slice (some ⟨g,F*2,none⟩) (N-F) (c-F),.slice (some ⟨g,0,none⟩) N c,.int .i64 (F:Int),.slice (some ⟨g,0,none⟩) F c,.slice (some ⟨q.1,0,none⟩) 2 2,q.2,q.2]:List Value).getD k undef
theorem z5w (b off cap n:Nat) (o:List Pt) (h0:0<o.length) (hlen:o.length<=4096) (w:zA) (HW:Hid (Wd w))
 (WO:Hid (zC zF 90 #[.slice (some ⟨b,off,none⟩) n cap,.func (.func 91) #[] #[]] w λe w'=>∃v,e=.returned v/\w'.ownsRow w.heap.size 25 2 v o.length (z3k o)/\zB w.heap.size w w'))
 (OR:Hid (∀i j,qK 85 #[ptV (cor o i),ptV (cor o j)] (.int .i64 (ordP (cor o i) (cor o j)))))
 (RV:Hid (∀g c,∀W:zA,W.ownsRow w.heap.size 25 2 (.slice (some ⟨g,0,none⟩) o.length c) o.length (z3k o)->zC zF 92 #[.slice (some ⟨g,0,none⟩) o.length c] W λe w'=>e=.returned (.tuple #[])/\w'.ownsRow w.heap.size 25 2 (.slice (some ⟨g,0,none⟩) o.length c) o.length (z3k o.reverse)/\zB w.heap.size W w'))
 (CC:Hid (∀(g c F b:Nat) (x:List Pt),x.length=o.length->F<o.length->∀W:zA,w.heap.size<=W.heap.size->W.ownsRow w.heap.size 25 2 (.slice (some ⟨g,0,none⟩) o.length c) o.length (z3k x)->W.heap[b]? =some (.cells #[.slice (some ⟨g,F*2,none⟩) (o.length-F) (c-F),.slice (some ⟨g,0,none⟩) F c] 22 (0,0))->
   zC zF 93 #[.slice (some ⟨b,0,none⟩) 2 2] W λe w'=>∃v,e=.returned v/\w'.ownsRow w.heap.size 25 2 v o.length (z3k (x.drop F++x.take F))/\zB W.heap.size W w'))
 (TU:Hid (∀i j k,qK 35 #[ptV (cor o i),ptV (cor o j),ptV (cor o k)] (.int .i64 (turn (cor o i) (cor o j) (cor o k))))):
 zC zF 41 #[.slice (some ⟨b,off,none⟩) n cap] w λe w'=>∃v,e=.returned v/\w'.ownsRow w.heap.size 25 2 v o.length (z3k (z31 o))/\zB w.heap.size w w':=by
 obtain⟨N,hN⟩:∃N,N=o.length:=⟨_,rfl⟩
 go_enter Tryz.func41,Tryz.ntmps41
 go_wp2_with fail
 refine WO.out.mono ?_
 rintro e w1 ⟨v,rfl,hown,hb1⟩
 obtain⟨g,c,rfl,hg,hcs⟩:=z4s hown h0
 have HO:=hid hown;have HB:=hid hb1;have HC:=hid hcs
 clear hown hb1 hcs WO
 have hNc:o.length<=c:=by
  rcases HO.out.2 with⟨e,_⟩|⟨g',c',cur,e,_,_,h1,_⟩
  ·cases e
  ·cases e;exact h1
 rw[<-hN] at h0 hlen HO HC RV CC hNc⊢
 have HN:=hid hN;clear hN
 go_wp2_with fail
 go_loopw [12,4] (λi f wr=>∃(k:Nat),k<=N/\i=.int .i64 (k:Int)/\f=.int .i64 ((z3l o k:Nat):Int)/\Hid (qL w1 wr))
  (λi _ _=>N-(zL i).toNat)
 case atStart=>exact⟨0,zR _,rfl,rfl,zM _ _⟩
 case round=>
  obtain⟨k,hk,rfl,rfl,hB⟩:=hrel
  by_cases hlt:k<N
  ·obtain⟨c0,c1⟩:=HC.out wr hB.out k
   rw[zQ hlt] at c0 c1
   have hll:z3l o k<N:=by rw[HN.out];exact(z4f (by rw[<-HN.out];exact h0) k (by rw[<-HN.out];exact hk)).1
   have hcs:=HC.out
   have HCf:=hid λW h=>hcs W h (z3l o k)
   rw[zQ hll] at HCf
   have hor:=OR.out k (z3l o k)
   have HL:=hid (show z3l o (k+1)=if ordP (cor o k) (cor o (z3l o k))<0 then k else z3l o k from rfl)
   unfold ptV at hor
   generalize z3l o k=f1 at*
   generalize hm:ordP (cor o k) (cor o f1)=m at*
   obtain⟨lb,hlb⟩:∃lb,decide (m<0)=lb:=⟨_,rfl⟩
   have HM:=hid hlb
   have HOR:=hid hor
   clear hor hcs hm hlb
   generalize numS (cor o k).x=xk at c0 HOR
   generalize numS (cor o k).y=yk at c1 HOR
   generalize numS (cor o f1).x=xf at HCf HOR
   generalize numS (cor o f1).y=yf at HCf HOR
   have HS:Hid (BoxS w1 wr.heap.size xk yk (wr.alloc (.cells #[St xk,St yk] 25))):=hid (by
    have hal:qL wr (wr.alloc (.cells #[St xk,St yk] 25)):=(zM _ wr).alloc (zN _) _
    exact⟨hB.out.trans (hal.mono hB.out.size),zG _ _⟩)
   have hwr:IntKind.i64.wrap ((k:Int)+1)=(k:Int)+1:=zI _ ⟨by omega,by omega⟩
   go_wp2_with fail
   clear hB c0 c1
   obtain⟨W1,hW1⟩:∃W1,W1=wr.alloc (.cells #[St xk,St yk] 25):=⟨_,rfl⟩
   rw[<-hW1] at HS
   try rw[show wr.alloc (.cells #[.string ⟨xk.toArray⟩,.string ⟨yk.toArray⟩] 25)=W1 from hW1.symm]
   clear hW1
   generalize wr.heap.size=A at*
   refine zbl (λ_ W=>BoxS w1 A xk yk W) (by kernel_rfl) (by kernel_rfl) (HS.out.next (zM _ _).drew) ?_
   refine qR (.agg #[St xk,St yk]) ?_ (hy:=λf W' hf h=>by obtain⟨c0,c1⟩:=h.cx;go_simp)
   simp only[zzQ]
   refine qR (.slice (some ⟨g,0,none⟩) N c) ?_
   simp only[zzQ]
   refine qR (.int .i64 (f1:Int)) ?_
   simp only[zzQ]
   refine qR (.pointer (some ⟨g,f1*2,none⟩)) ?_
   simp only[zzQ]
   refine qR (.agg #[St xf,St yf]) ?_ (hy:=λf W' hf h=>by obtain⟨c0,c1⟩:=HCf.out _ h.bel;go_simp)
   simp only[zzQ]
   refine zar (.int .i64 m) (by rfl) (λf W' hf h C' hC'=>by
    go_simp
    refine(HOR.out _ (HW.out.below (HB.out.trans (h.bel.mono HB.out.size)))).mono ?_
    rintro e w' ⟨rfl,hb⟩
    exact⟨rfl,hC' _ (h.next hb)⟩) ?_
   try simp only[zzQ]
   refine qR (.bool lb) ?_ (hy:=λf W' hf h=>by have h0:=HM.out;go_simp)
   simp only[zzQ]
   refine zck λf W5 hf h5=>?_
   have HS5:=hid h5.bel
   clear hf h5 HS HCf HOR
   cases lb
   case true=>
    have HL2:=hid (show z3l o (k+1)=k by rw[HL.out,if_pos (of_decide_eq_true HM.out)])
    go_wp2_with fail
    go_roundw
    case rel=>exact⟨k+1,by omega,by go_num,by rw[HL2.out],HS5⟩
    case measure=>simp[zL];omega
   case false=>
    have HL2:=hid (show z3l o (k+1)=f1 by rw[HL.out,if_neg (of_decide_eq_false HM.out)])
    go_wp2_with fail
    go_roundw
    case rel=>exact⟨k+1,by omega,by go_num,by rw[HL2.out],HS5⟩
    case measure=>simp[zL];omega
  ·obtain rfl:N=k:=by omega
   have hF:z3l o N<N:=by have:=(z4f (o:=o) (by rw[<-HN.out];exact h0) o.length (zN _)).1;rwa [<-HN.out] at this
   have hcs:=HC.out
   have HCf:=hid λW h=>hcs W h (z3l o N)
   have HCp:=hid λW h=>hcs W h (z3l o N+N-1)
   have HCn:=hid λW h=>hcs W h (z3l o N+1)
   rw[zQ hF] at HCf
   have htu:=TU.out (z3l o N+N-1) (z3l o N) (z3l o N+1)
   unfold ptV at htu
   have HCO:=hid (show z31 o=if turn (cor o (z3l o N+N-1)) (cor o (z3l o N)) (cor o (z3l o N+1))<0 then o.reverse.drop (N-1-z3l o N)++o.reverse.take (N-1-z3l o N) else o.drop (z3l o N)++o.take (z3l o N) by unfold z31;rw[<-HN.out])
   generalize z3l o N=F at*
   generalize hm:turn (cor o (F+N-1)) (cor o F) (cor o (F+1))=m at*
   obtain⟨lb,hlb⟩:∃lb,decide (m<0)=lb:=⟨_,rfl⟩
   have HM:=hid hlb
   have HTU:=hid htu
   have ht:=z5z (k:=F) (n:=N) (by omega)
   have ht2:=z44 F N
   have hn0:¬N=0:=by omega
   have hw1:IntKind.i64.wrap ((F:Int)+N)=(F:Int)+N:=zI _ ⟨by omega,by omega⟩
   have hw2:IntKind.i64.wrap ((F:Int)+N-1)=(F:Int)+N-1:=zI _ ⟨by omega,by omega⟩
   have hw3:IntKind.i64.wrap ((F:Int)+1)=(F:Int)+1:=zI _ ⟨by omega,by omega⟩
   have hi1:(F+N-1)%N<N:=zP _ (by omega)
   have hi2:(F+1)%N<N:=zP _ (by omega)
   clear htu hcs hm hlb
   generalize (F+N-1)%N=i1 at*
   generalize (F+1)%N=i2 at*
   generalize numS (cor o (F+N-1)).x=xp at HCp HTU
   generalize numS (cor o (F+N-1)).y=yp at HCp HTU
   generalize numS (cor o F).x=xf at HCf HTU
   generalize numS (cor o F).y=yf at HCf HTU
   generalize numS (cor o (F+1)).x=xn at HCn HTU
   generalize numS (cor o (F+1)).y=yn at HCn HTU
   go_wp2_with fail
   refine zbl (λ_ W=>qL w1 W) (by kernel_rfl) (by kernel_rfl) hB.out.drew ?_
   refine qR (.slice (some ⟨g,0,none⟩) N c) ?_
   simp only[zzQ]
   refine qR (.int .i64 (F:Int)) ?_
   simp only[zzQ]
   refine qR (.int .i64 (N:Int)) ?_
   simp only[zzQ]
   refine qR (.int .i64 ((F:Int)+N)) ?_
   simp only[zzQ]
   refine qR (.int .i64 ((F:Int)+N-1)) ?_
   simp only[zzQ]
   refine qR (.int .i64 (N:Int)) ?_
   simp only[zzQ]
   refine qR (.int .i64 (i1:Int)) ?_
   simp only[zzQ]
   refine qR (.pointer (some ⟨g,i1*2,none⟩)) ?_
   simp only[zzQ]
   refine qR (.agg #[St xp,St yp]) ?_ (hy:=λf W' hf h=>by obtain⟨c0,c1⟩:=HCp.out _ h;go_simp)
   simp only[zzQ]
   refine qR (.slice (some ⟨g,0,none⟩) N c) ?_
   simp only[zzQ]
   refine qR (.int .i64 (F:Int)) ?_
   simp only[zzQ]
   refine qR (.pointer (some ⟨g,F*2,none⟩)) ?_
   simp only[zzQ]
   refine qR (.agg #[St xf,St yf]) ?_ (hy:=λf W' hf h=>by obtain⟨c0,c1⟩:=HCf.out _ h;go_simp)
   simp only[zzQ]
   refine qR (.slice (some ⟨g,0,none⟩) N c) ?_
   simp only[zzQ]
   refine qR (.int .i64 (F:Int)) ?_
   simp only[zzQ]
   refine qR (.int .i64 ((F:Int)+1)) ?_
   simp only[zzQ]
   refine qR (.int .i64 (N:Int)) ?_
   simp only[zzQ]
   refine qR (.int .i64 (i2:Int)) ?_
   simp only[zzQ]
   refine qR (.pointer (some ⟨g,i2*2,none⟩)) ?_
   simp only[zzQ]
   refine qR (.agg #[St xn,St yn]) ?_ (hy:=λf W' hf h=>by obtain⟨c0,c1⟩:=HCn.out _ h;go_simp)
   simp only[zzQ]
   refine zar (.int .i64 m) (by rfl) (λf W' hf h C' hC'=>by
    go_simp
    refine(HTU.out _ (HW.out.below (HB.out.trans (h.mono HB.out.size)))).mono ?_
    rintro e w' ⟨rfl,hb⟩
    exact⟨rfl,hC' _ (h.trans (hb.mono h.size))⟩) ?_
   try simp only[zzQ]
   refine qR (.bool lb) ?_ (hy:=λf W' hf h=>by have h0:=HM.out;go_simp)
   simp only[zzQ]
   refine zck λf W6 hf h5=>?_
   have HB6:=hid h5
   clear hf h5 HCf HCp HCn HTU hB
   have HO6:=hid (zcj (zac HB6.out) HO.out)
   have HB7:=hid (HB.out.trans (HB6.out.mono HB.out.size))
   clear HO HC HB HB6
   have hf1:(F:Int)<=(N:Int):=by omega
   have hf2:(F:Int)<=(c:Int):=by omega
   cases lb
   case true=>
    have HCF:=hid (HCO.out.trans (if_pos (of_decide_eq_true HM.out)))
    obtain⟨F',hF'⟩:∃F',F'=N-1-F:=⟨_,rfl⟩
    rw[<-hF'] at HCF
    have hw4:IntKind.i64.wrap ((N:Int)-1)=(N:Int)-1:=zI _ ⟨by omega,by omega⟩
    have hw5:IntKind.i64.wrap ((N:Int)-1-F)=(F':Int):=by rw[zI _ ⟨by omega,by omega⟩];omega
    have hf3:(F':Int)<=(N:Int):=by omega
    have hf4:(F':Int)<=(c:Int):=by omega
    have hF2:F'<N:=by omega
    clear hF'
    go_wp2_with fail
    refine(RV.out g c W6 HO6.out).mono ?_
    rintro e W7 ⟨rfl,ho7,hb7⟩
    have HO6:=hid ho7
    have HB7:=hid (HB7.out.trans hb7)
    clear ho7 hb7
    go_wp2_with fail
    refine zc4 (catV g N c F') (ConS w (.slice (some ⟨g,0,none⟩) N c) N (o.reverse) (o.reverse.drop F'++o.reverse.take F') (.slice (some ⟨g,F'*2,none⟩) (N-F') (c-F')) (.slice (some ⟨g,0,none⟩) F' c)) (by kernel_rfl) (by kernel_rfl) (0,undef) ⟨HB7.out.trans (zM _ _).drew,HO6.out,λk=>(by cases k),λk=>(by cases k)⟩ λq=>?_
    refine qB (.slice (some ⟨g,0,none⟩) N c) (λf W' h=>h.congr rfl rfl) ?_
    simp only[zzQ]
    refine qB (.int .i64 (F':Int)) (λf W' h=>h.congr rfl rfl) ?_
    simp only[zzQ]
    refine qB (.slice (some ⟨g,F'*2,none⟩) (N-F') (c-F')) (λf W' h=>h.congr rfl rfl) ?_ (hy:=λf W' hf h=>by go_simp;intro e;omega)
    simp only[zzQ]
    refine qB (.slice (some ⟨g,0,none⟩) N c) (λf W' h=>h.congr rfl rfl) ?_
    simp only[zzQ]
    refine qB (.int .i64 (F':Int)) (λf W' h=>h.congr rfl rfl) ?_
    simp only[zzQ]
    refine qB (.slice (some ⟨g,0,none⟩) F' c) (λf W' h=>h.congr rfl rfl) ?_
    simp only[zzQ]
    refine zdc (.slice (some ⟨q.1,0,none⟩) 2 2) (by rfl) (by rfl) (λf W' hf h C' hC'=>by
     have h7:=hf.no (j:=7) hf.self (by kernel_rfl)
     have hj:∀j,f j=true->catV g N c F' (W'.heap.size,q.2) j=catV g N c F' q j:=by
      intro j hj
      match j,hj with
      |0,_|1,_|2,_|3,_|4,_|5,_=>rfl
      |6,hj=>rw[hf.self] at hj;cases hj
      |7,_|8,_=>rfl
      |_+9,_=>rfl
     have:=hC' _ _ hj (h.new h7 rfl)
     go_simp
     exact this) ?_
    try simp only[zzQ]
    refine zdc q.2 (by rfl) (by rfl) (λf W' hf h C' hC'=>by
     have h6:=hf.done 6 (by kernel_rfl)
     have h8:=hf.no (j:=8) hf.self (by kernel_rfl)
     have hc:=CC.out g c F' q.1 (o.reverse) (by rw[List.length_reverse];exact HN.out.symm) hF2 W' h.bel.size h.own (h.nw h6)
     have h7:=hf.self
     go_simp
     refine hc.mono ?_
     rintro e w' ⟨u,rfl,hown,hb⟩
     have hj:∀j,f j=true->catV g N c F' (q.1,u) j=catV g N c F' q j:=by
      intro j hj
      match j,hj with
      |0,_|1,_|2,_|3,_|4,_|5,_|6,_=>rfl
      |7,hj=>rw[h7] at hj;cases hj
      |8,hj=>rw[h8] at hj;cases hj
      |_+9,_=>rfl
     exact⟨_,rfl,hC' (q.1,u) _ hj (h.res hb hown rfl)⟩) ?_
    try simp only[zzQ]
    refine qB q.2 (λf W' h=>h.congr rfl rfl) ?_
    simp only[zzQ]
    refine ze1 λf W8 hf h=>?_
    have HV:=hid (⟨h.rs (hf 7 (by decide)),h.bel⟩:_/\_)
    clear hf h
    go_wp2_with fail
    go_ret
    exact⟨_,rfl,by rw[HCF.out,<-HN.out];exact HV.out.1,HV.out.2⟩
   case false=>
    have HCF:=hid (HCO.out.trans (if_neg (of_decide_eq_false HM.out)))
    go_wp2_with fail
    refine zc4 (catV g N c F) (ConS w (.slice (some ⟨g,0,none⟩) N c) N (o) (o.drop F++o.take F) (.slice (some ⟨g,F*2,none⟩) (N-F) (c-F)) (.slice (some ⟨g,0,none⟩) F c)) (by kernel_rfl) (by kernel_rfl) (0,undef) ⟨HB7.out.trans (zM _ _).drew,HO6.out,λk=>(by cases k),λk=>(by cases k)⟩ λq=>?_
    refine qB (.slice (some ⟨g,0,none⟩) N c) (λf W' h=>h.congr rfl rfl) ?_
    simp only[zzQ]
    refine qB (.int .i64 (F:Int)) (λf W' h=>h.congr rfl rfl) ?_
    simp only[zzQ]
    refine qB (.slice (some ⟨g,F*2,none⟩) (N-F) (c-F)) (λf W' h=>h.congr rfl rfl) ?_ (hy:=λf W' hf h=>by go_simp;intro e;omega)
    simp only[zzQ]
    refine qB (.slice (some ⟨g,0,none⟩) N c) (λf W' h=>h.congr rfl rfl) ?_
    simp only[zzQ]
    refine qB (.int .i64 (F:Int)) (λf W' h=>h.congr rfl rfl) ?_
    simp only[zzQ]
    refine qB (.slice (some ⟨g,0,none⟩) F c) (λf W' h=>h.congr rfl rfl) ?_
    simp only[zzQ]
    refine zdc (.slice (some ⟨q.1,0,none⟩) 2 2) (by rfl) (by rfl) (λf W' hf h C' hC'=>by
     have h7:=hf.no (j:=7) hf.self (by kernel_rfl)
     have hj:∀j,f j=true->catV g N c F (W'.heap.size,q.2) j=catV g N c F q j:=by
      intro j hj
      match j,hj with
      |0,_|1,_|2,_|3,_|4,_|5,_=>rfl
      |6,hj=>rw[hf.self] at hj;cases hj
      |7,_|8,_=>rfl
      |_+9,_=>rfl
     have:=hC' _ _ hj (h.new h7 rfl)
     go_simp
     exact this) ?_
    try simp only[zzQ]
    refine zdc q.2 (by rfl) (by rfl) (λf W' hf h C' hC'=>by
     have h6:=hf.done 6 (by kernel_rfl)
     have h8:=hf.no (j:=8) hf.self (by kernel_rfl)
     have hc:=CC.out g c F q.1 (o) (HN.out.symm) hF W' h.bel.size h.own (h.nw h6)
     have h7:=hf.self
     go_simp
     refine hc.mono ?_
     rintro e w' ⟨u,rfl,hown,hb⟩
     have hj:∀j,f j=true->catV g N c F (q.1,u) j=catV g N c F q j:=by
      intro j hj
      match j,hj with
      |0,_|1,_|2,_|3,_|4,_|5,_|6,_=>rfl
      |7,hj=>rw[h7] at hj;cases hj
      |8,hj=>rw[h8] at hj;cases hj
      |_+9,_=>rfl
     exact⟨_,rfl,hC' (q.1,u) _ hj (h.res hb hown rfl)⟩) ?_
    try simp only[zzQ]
    refine qB q.2 (λf W' h=>h.congr rfl rfl) ?_
    simp only[zzQ]
    refine ze1 λf W8 hf h=>?_
    have HV:=hid (⟨h.rs (hf 7 (by decide)),h.bel⟩:_/\_)
    clear hf h
    go_wp2_with fail
    go_ret
    exact⟨_,rfl,by rw[HCF.out,<-HN.out];exact HV.out.1,HV.out.2⟩
structure TwoB (w:zA) (x y u v:List UInt8) (W:zA):Prop where
 bel:qL w W
 b1:W.heap[w.heap.size]? =some (.cells #[St x,St y] 25 (0,0))
 b2:W.heap[w.heap.size+1]? =some (.cells #[St u,St v] 25 (0,0))
section
variable {w W W':zA} {x y u v:List UInt8}
theorem TwoB.next (h:TwoB w x y u v W) (hb:qL W W'):TwoB w x y u v W':=
 ⟨h.bel.trans (hb.mono h.bel.size),(hb.block _ (Array.getElem?_eq_some_iff.1 h.b1).1).trans h.b1,(hb.block _ (Array.getElem?_eq_some_iff.1 h.b2).1).trans h.b2⟩
theorem TwoB.start (w:zA) (x y u v:List UInt8):TwoB w x y u v ((w.alloc (.cells #[St x,St y] 25)).alloc (.cells #[St u,St v] 25)):=by
 have e1:=zG w (.cells #[St x,St y] 25 (0,0))
 have e2:=zG (w.alloc (.cells #[St x,St y] 25)) (.cells #[St u,St v] 25 (0,0))
 simp only[World.size_alloc] at e2
 exact⟨((zM _ w).alloc (zN _) _).alloc (by simp) _,(Below.heap_alloc _ _ _ (by simp)).trans e1,e2⟩
theorem TwoB.cells (h:TwoB w x y u v W):(W.cell? ⟨w.heap.size,0,none⟩=some (St x)/\W.cell? ⟨w.heap.size,1,none⟩=some (St y))/\W.cell? ⟨w.heap.size+1,0,none⟩=some (St u)/\W.cell? ⟨w.heap.size+1,1,none⟩=some (St v):=
 ⟨⟨by rw[zJ h.b1];rfl,by rw[zJ h.b1];rfl⟩,by rw[zJ h.b2];rfl,by rw[zJ h.b2];rfl⟩
end
theorem ybm (x1 y1 x2 y2:List UInt8) (m n r:Int) (hr:r=if m≠0 then m else n)
 (S1:Hid (qK 40 #[St x1,St x2] (.int .i64 m)))
 (S2:Hid (qK 40 #[St y1,St y2] (.int .i64 n)))
 (w:zA) (HW:Hid (Wd w)):
 qJ 94 #[.agg #[St x1,St y1],.agg #[St x2,St y2]] w (.int .i64 r):=by
 obtain⟨W3,hW3⟩:∃W3,W3=(w.alloc (.cells #[St x1,St y1] 25)).alloc (.cells #[St x2,St y2] 25):=⟨_,rfl⟩
 have HI:=hid (TwoB.start w x1 y1 x2 y2)
 rw[<-hW3] at HI
 have HT:=hid (S1.out W3 (HW.out.below HI.out.bel))
 have HR:=hid hr;clear hr
 obtain⟨⟨a0,a1⟩,b0,b1⟩:=HI.out.cells
 rw[hW3] at a0 a1 b0 b1
 have HW3:=hid hW3.symm;clear hW3 S1
 go_enter Tryz.func94,Tryz.ntmps94
 go_wp2_with fail
 rw[HW3.out]
 refine HT.out.mono ?_
 rintro e w1 ⟨rfl,hb1⟩
 have HI1:=hid (HI.out.next hb1)
 clear hb1 a0 a1 b0 b1 HI HW3 HT
 by_cases hm:m=0
 ·subst hm
  have HE:=hid (HR.out.trans (if_neg (by decide)))
  obtain⟨⟨a0,a1⟩,b0,b1⟩:=HI1.out.cells
  change w1.cell? ⟨w.heap.size+1,0,none⟩=_ at b0
  go_wp2_with fail
  refine(S2.out w1 (HW.out.below HI1.out.bel)).mono ?_
  rintro e w2 ⟨rfl,hb2⟩
  have HI2:=hid (HI1.out.next hb2)
  clear hb2 HI1 a0 a1 b0 b1
  go_wp2_with fail
  go_ret
  exact⟨by rw[HE.out]<;>rfl,HI2.out.bel⟩
 ·have HE:=hid (HR.out.trans (if_pos hm))
  have e1:(m==0)=false:=beq_eq_false_iff_ne.2 hm
  have e2:(m !=0)=true:=by rw[bne,e1];rfl
  clear hm
  go_wp2_with fail
  go_ret
  exact⟨by rw[HE.out]<;>rfl,HI1.out.bel⟩
theorem ycv (a b:Pt) (k:Nat) (hk:0<k) (hk2:8*k+4<=300) (ha:szP a k) (hb:szP b k) (w:zA) (hw:Wd w):
 qJ 94 #[ptV a,ptV b] w (.int .i64 (ordP a b)):=
 ybm _ _ _ _ _ _ _ rfl (hid λW hW=>zjl _ _ k k hk hk (by omega) ha.1 hb.1 W hW) (hid λW hW=>zjl _ _ k k hk hk (by omega) ha.2 hb.2 W hW) w (hid hw)
theorem yas (ga ca gb cb:Nat) (x y:List Pt) (h0:0<x.length) (hx:x.length<=4096) (_:0<y.length) (_:y.length<=4096) (w:zA)
 (HA:Hid (∀W:zA,qL w W->∀k,W.cell? ⟨ga,k%x.length*2,none⟩=some (St (numS (cor x k).x))/\W.cell? ⟨ga,k%x.length*2+1,none⟩=some (St (numS (cor x k).y))))
 (HB:Hid (∀W:zA,qL w W->∀k,W.cell? ⟨gb,k%y.length*2,none⟩=some (St (numS (cor y k).x))/\W.cell? ⟨gb,k%y.length*2+1,none⟩=some (St (numS (cor y k).y)))):
 zC zF 42 #[.slice (some ⟨ga,0,none⟩) x.length ca,.slice (some ⟨gb,0,none⟩) y.length cb] w (EqP w x y):=by
 by_cases hl:x.length=y.length
 ·obtain⟨n,hn⟩:∃n,n=x.length:=⟨_,rfl⟩
  rw[<-hl] at HB⊢
  rw[<-hn] at h0 hx HA HB⊢
  have HN:=hid (⟨hn,hl⟩:n=x.length/\x.length=y.length);clear hn hl
  go_enter Tryz.func42,Tryz.ntmps42
  go_wp2_with fail
  go_loopw [5] (λi wr=>∃(k:Nat),k<=n/\i=.int .i64 (k:Int)/\Hid (qL w wr)/\Hid (∀i,i<k->cor x i=cor y i))
   (λi _=>n-(zL i).toNat)
  case atStart=>exact⟨0,zR _,rfl,zM _ _,λi h=>absurd h (by omega)⟩
  case round=>
   obtain⟨k,hk,rfl,hB,hS⟩:=hrel
   by_cases hlt:k<n
   ·obtain⟨c0,c1⟩:=HA.out wr hB.out k
    obtain⟨d0,d1⟩:=HB.out wr hB.out k
    rw[zQ hlt] at c0 c1 d0 d1
    have HSM:Hid (numS (cor x k).x=numS (cor y k).x/\numS (cor x k).y=numS (cor y k).y->cor x k=cor y k):=hid z7x
    have HDF:Hid (cor x k=cor y k->numS (cor x k).x=numS (cor y k).x/\numS (cor x k).y=numS (cor y k).y):=hid λe=>by rw[e];exact⟨rfl,rfl⟩
    have HQ:=hid λm=>hB.out.trans ((zao (zM _ wr) m).mono hB.out.size)
    generalize numS (cor x k).x=ax at*
    generalize numS (cor x k).y=ay at*
    generalize numS (cor y k).x=bx at*
    generalize numS (cor y k).y=by' at*
    by_cases hxx:ax=bx
    ·by_cases hyy:ay=by'
     ·subst hxx;subst hyy
      have HE:=hid (HSM.out ⟨rfl,rfl⟩)
      go_wp2_with fail
      go_quiet (fail)
      go_wp2_with fail
      go_roundw
      case rel=>exact⟨k+1,by omega,by go_num,hid (HQ.out _),λi hi=>(by
       by_cases e:i=k
       ·subst e;exact HE.out
       ·exact hS.out i (by omega))⟩
      case measure=>simp[zL];omega
     ·have HE:=hid (λe=>hyy (HDF.out e).2:cor x k≠cor y k)
      subst hxx
      go_wp2_with fail
      go_quiet (fail)
      go_wp2_with fail
      go_ret
      exact EqP.no (λe=>HE.out (by rw[e])) (HQ.out _)
    ·have HE:=hid (λe=>hxx (HDF.out e).1:cor x k≠cor y k)
     go_wp2_with fail
     go_quiet (fail)
     go_wp2_with fail
     go_ret
     exact EqP.no (λe=>HE.out (by rw[e])) (HQ.out _)
   ·obtain rfl:n=k:=by omega
    have HE:=hid (z6k HN.out.2 (λi hi=>hS.out i (by rw[HN.out.1];exact hi)))
    clear hS
    go_wp2_with fail
    go_ret
    exact EqP.yes HE.out hB.out
 ·have hli:((x.length:Int) !=(y.length:Int))=true:=by simpa using λe:(x.length:Int)=y.length=>hl (by omega)
  have HE:=hid (λe=>hl (by rw[e]):x≠y)
  clear hl HA HB
  generalize x.length=n at*
  generalize y.length=m at*
  go_enter Tryz.func42,Tryz.ntmps42
  go_wp2_with fail
  go_ret
  exact EqP.no HE.out (zM _ _)
theorem ybn (p1 p2:Option Addr) (cap1 cap2 n1 n2:Nat) (x y:List Pt) (hx0:0<x.length) (hx:x.length<=4096) (hy0:0<y.length) (hy:y.length<=4096) (w:zA)
 (C1:Hid (∀W:zA,qL w W->qJ 36 #[.slice p1 n1 cap1] W (.int .i64 0)))
 (C2:Hid (∀W:zA,qL w W->qJ 36 #[.slice p2 n2 cap2] W (.int .i64 0)))
 (K1:Hid (∀W:zA,qL w W->zC zF 43 #[.slice p1 n1 cap1] W λe w'=>∃v,e=.returned v/\w'.ownsRow W.heap.size 25 2 v x.length (z3k x)/\zB W.heap.size W w'))
 (K2:Hid (∀W:zA,qL w W->zC zF 43 #[.slice p2 n2 cap2] W λe w'=>∃v,e=.returned v/\w'.ownsRow W.heap.size 25 2 v y.length (z3k y)/\zB W.heap.size W w')):
 qJ 11 #[.slice p1 n1 cap1,.slice p2 n2 cap2] w (.tuple #[.bool (decide (x=y)),.int .i64 0]):=by
 go_enter Tryz.func11,Tryz.ntmps11
 go_wp2_with fail
 refine(C1.out w (zM _ _)).mono ?_
 rintro e w1 ⟨rfl,hb1⟩
 have HB1:=hid hb1;clear hb1 C1
 go_wp2_with fail
 refine(C2.out w1 HB1.out).mono ?_
 rintro e w2 ⟨rfl,hb2⟩
 have HB2:=qT HB1 hb2;clear hb2 HB1 C2
 go_wp2_with fail
 refine(K1.out w2 HB2.out).mono ?_
 rintro e w3 ⟨v1,rfl,ho1,hb3⟩
 obtain⟨g1,c1,rfl,_,hc1⟩:=z4s ho1 hx0
 have HB3:=qT HB2 hb3;clear hb3 HB2 K1 ho1
 have HC1:=hid hc1;clear hc1
 go_wp2_with fail
 refine(K2.out w3 HB3.out).mono ?_
 rintro e w4 ⟨v2,rfl,ho2,hb4⟩
 obtain⟨g2,c2,rfl,_,hc2⟩:=z4s ho2 hy0
 have HE:=hid (yas g1 c1 g2 c2 x y hx0 hx hy0 hy w4 (hid λW hb k=>HC1.out W (hb4.trans (hb.mono hb4.size)) k) (hid hc2))
 have HB4:=qT HB3 hb4;clear hb4 HB3 K2 ho2 hc2 HC1 hx0 hx hy0 hy
 generalize x.length=a at*
 generalize y.length=b at*
 go_wp2_with fail
 refine HE.out.mono ?_
 rintro e w5 ⟨rfl,hb5⟩
 have HB5:=qT HB4 hb5;clear hb5 HB4 HE
 generalize ht:decide (x=y)=t at*
 have HT:=hid ht;clear ht
 go_wp2_with fail
 go_ret2
 exact⟨by rw[HT.out];rfl,HB5.out⟩
end
section
open Go.RowKit Go.Shelf Lib Str Limb Geo
def zlx (o:List Pt) (f s k:Nat):List Pt:=(List.range k).map λi=>cor o (f+i*s)
theorem ybo (o:List Pt) (f s k:Nat):zlx o f s (k+1)=zlx o f s k++[cor o (f+k*s)]:=by
 unfold zlx;rw[List.range_succ,List.map_append];rfl
theorem zpc (o:List Pt) (f s k:Nat):(zlx o f s k).length=k:=by unfold zlx;simp
theorem z9s (o:List Pt) (f s:Nat) {i k:Nat} (h:i<k):cor (zlx o f s k) i=cor o (f+i*s):=by
 rw[z3r (by rw[zpc];exact h)]
 unfold zlx
 simp
theorem ycw {n f i:Nat} (hf:f<n):(f+i*(n-1))%n=n-1-(i+(n-1-f))%n:=by
 have h0:0<n:=by omega
 have e:(f+i*(n-1))+(i+(n-1-f))=(n-1)+n*i:=by
  have:i*(n-1)+i=n*i:=by
   rw[Nat.mul_sub,Nat.mul_one,Nat.mul_comm n i]
   have:i<=i*n:=Nat.le_mul_of_pos_right _ h0
   omega
  omega
 have h1:=Nat.add_mod (f+i*(n-1)) (i+(n-1-f)) n
 rw[e,Nat.add_mul_mod_self_left,zQ (by omega:n-1<n)] at h1
 have a:=zP (f+i*(n-1)) h0
 have b:=zP (i+(n-1-f)) h0
 generalize (f+i*(n-1))%n=A at*
 generalize (i+(n-1-f))%n=B at*
 by_cases c:A+B<n
 ·rw[zQ c] at h1;omega
 ·rw[Nat.mod_eq_sub_mod (by omega),zQ (by omega)] at h1;omega
theorem ycx (o:List Pt) {f:Nat} (hf:f<o.length):zlx o f 1 o.length=o.drop f++o.take f:=by
 refine z6k (by rw[zpc];simp;omega) λi hi=>?_
 rw[zpc] at hi
 rw[z9s o f 1 hi,z3y,yN,zX,Nat.min_eq_left (by omega)]
 congr 1;omega
theorem ycd (o:List Pt) {f:Nat} (hf:f<o.length):zlx o f (o.length-1) o.length=o.reverse.drop (o.length-1-f)++o.reverse.take (o.length-1-f):=by
 refine z6k (by rw[zpc];simp;omega) λi hi=>?_
 rw[zpc] at hi
 rw[z9s o f _ hi,z3y,yN,zX,Nat.min_eq_left (by simp;omega)]
 rw[<-zt4 o.reverse,List.length_reverse,z4i o (zP _ (by omega)),<-ycw hf,zt4]
theorem ybp (o:List Pt) (h0:0<o.length):
 zlx o (z3l o o.length) (if turn (cor o (z3l o o.length+o.length-1)) (cor o (z3l o o.length)) (cor o (z3l o o.length+1))<0 then o.length-1 else 1) o.length=z31 o:=by
 have hf:=(z4f h0 o.length (zN _)).1
 unfold z31
 split
 ·exact ycd o hf
 ·exact ycx o hf
theorem zkl {l:List Pt} (h3:3<=l.length) (h:z3q l):z3n l≠[]:=by
 obtain⟨f1,f2⟩:=z4f (o:=l) (by omega) l.length (zN _)
 generalize z3l l l.length=f at*
 have hnf:z3m l f=false:=by
  cases hc:z3m l f with
  |false=>rfl
  |true=>
   exfalso
   unfold z3m at hc
   have hc:turn (cor l (f+l.length-1)) (cor l f) (cor l (f+1))=0:=by simpa using hc
   -- the side before
   obtain⟨g,hg,e1,e2,hgf⟩:∃g,g<l.length/\cor l (f+l.length-1)=cor l g/\cor l (g+1)=cor l f/\g≠f/\(f=g+1\/f=0/\g=l.length-1):=by
    by_cases c:f=0
    ·refine⟨l.length-1,by omega,by rw[c,Nat.zero_add],?_,by omega,.inr ⟨c,rfl⟩⟩
     rw[show l.length-1+1=l.length+0 by omega,z3s,c]
    ·refine⟨f-1,by omega,?_,by rw[show f-1+1=f by omega],by omega,.inl (by omega)⟩
     rw[show f+l.length-1=l.length+(f-1) by omega,z3s]
   have hm:=z5l h.2 hg f1 hgf.1
   rw[e2] at hm
   have hw:(if g<f then zea l.length g f else zea l.length f g)=1:=by
    unfold zea
    rcases hgf.2 with c|⟨c,c2⟩
    ·rw[if_pos (by omega),if_pos (.inl c)]
    ·rw[if_neg (by omega),if_pos (.inr ⟨c,c2⟩)]
   rw[hw] at hm
   have d1:=h.1 g hg
   rw[e2] at d1
   have d2:=h.1 f f1
   have l1:=f2 g hg
   have l2:le (cor l f) (cor l (f+1)):=by
    have:=f2 ((f+1)%l.length) (zP _ (by omega))
    rwa [zt4] at this
   rw[e1] at hc
   generalize cor l g=v at*
   generalize cor l (f+1)=u at*
   generalize cor l f=P at*
   have t1:turn P u v=0:=by rw[zj3];exact hc
   rw[z33 (zc8 v P) hc t1 (zcz P u)] at hm
   have o1:ordP P v= -1:=by unfold le at l1;have:=z41 (Ne.symm d1);omega
   have o2:ordP P u= -1:=by unfold le at l2;have:=z41 d2;omega
   have s1:=z3t P v;have s2:=z3t P u;have z:=zgw P
   have w1:low v P=P:=by unfold low;rw[if_pos (by omega)]
   have w2:low P u=P:=by unfold low;rw[if_neg (by omega)]
   have w3:high v P=v:=by unfold high;rw[if_pos (by omega)]
   have w4:high P u=u:=by unfold high;rw[if_neg (by omega)]
   have w5:maxP P P=P:=by unfold maxP;split<;>rfl
   rw[w1,w2,w3,w4,w5] at hm
   unfold minP at hm
   split at hm<;>omega
 intro he
 have:cor l f∈z3n l:=by
  unfold z3n z3o
  exact List.mem_map.2 ⟨f,List.mem_filter.2 ⟨List.mem_range.2 f1,by rw[hnf];rfl⟩,rfl⟩
 rw[he] at this
 simp at this
end
section
open Go.RowKit Go.Shelf Lib Str Limb Geo
attribute [local go_sem] Oper.semAt_some
theorem z50 (n:Nat) (h1:1<=n) (hn:n<=10000) (w:zA):
 zC zF 150 #[.slice none 0 0,.int .i64 (n:Int)] w λe w'=>∃v,e=.returned v/\w'.ownsRow w.heap.size 25 2 v 0 []/\zB w.heap.size w w':=by
 obtain⟨i0,hi,hz0,hz1,hz2⟩:=info_parts z4u
 have hrz:∀ty,(Builtin.append_ #[22,3] ty #[.slice none 0 0,.int .i64 (n:Int)]).run zF w=
  .ok (.slice (some ⟨w.heap.size,0,none⟩) n (grownCap w n 0 25)) (w.drew.alloc (.cells (#[]++Builtin.zeroCells (Value.agg #[St [],St []]).cells n++Builtin.zeroCells (Value.agg #[St [],St []]).cells (grownCap w n 0 25-n)) 25)):=λty=>by
  have h:=Lib.run_append_grow_zeros w 22 3 ty 25 i0 (.agg #[St [],St []]) .i64 .i64 Tryz.underlying22 Tryz.underlying3 hi hz0 none 0 0 [] (run_firstCells_none w.drew i0.size 0 0 0) n h1 (by omega) (by omega) (by omega) (by rw[hz2];omega) (by rw[hz2];exact growslice_fits (by omega) (by omega))
  simpa using h
 have hGn:n<=grownCap w n 0 25:=grownCap_ge w _ _ _
 have hGm:grownCap w n 0 25<=maxLen:=grownCap_le_maxLen w n 0 25 (by unfold maxLen;omega)
 generalize grownCap w n 0 25=G at*
 have HR:=hid (hrz);clear hrz
 have HG:=hid (⟨hGn,hGm⟩:n<=G/\G<=maxLen)
 have hG63:G<=9223372036854775807:=by unfold maxLen at hGm;omega
 clear hi hz0 hz1 hz2 hGm
 have hn0:¬(n:Int)<0:=by omega
 have hn1:(0:Int)<n:=by omega
 have hw1:IntKind.i64.wrap (n:Int)=n:=zI _ ⟨by omega,by omega⟩
 go_enter Tryz.func150,Tryz.ntmps150
 go_wp2_with (at_builtin;refine Lib.wpList_append_run _ rfl _ _ _ _ rfl _ _ rfl rfl _ _ (HR.out _) ?_)
 go_ret
 refine⟨_,rfl,⟨rfl,.inr ⟨w.heap.size,G,_,rfl,zN _,zG w _,zR _,HG.out.2,?_,by simp⟩⟩,((zM _ w).alloc (zN _) _).drew⟩
 have:=HG.out.1
 rw[Array.size_append,size_zeroCells,size_zeroCells]
 show n*2+(G-n)*2=G*2
 omega
theorem z4v:∀(l:List Pt) (F:Nat),z3k (l.drop F)=(z3k l).drop (F*2)
 |l,0=>by simp
 |[],F+1=>by simp[z3k]
 |a::r,F+1=>by
  rw[List.drop_succ_cons,z4v r F,show(F+1)*2=F*2+1+1 by omega]
  rfl
theorem z4w:∀(l:List Pt) (F:Nat),z3k (l.take F)=(z3k l).take (F*2)
 |l,0=>by simp[z3k]
 |[],F+1=>by simp[z3k]
 |a::r,F+1=>by
  rw[List.take_succ_cons,show(F+1)*2=F*2+1+1 by omega]
  show St (numS a.x)::St (numS a.y)::z3k (r.take F)=_
  rw[z4w r F]
  rfl
theorem z4a:∀(l:List Pt),∀u∈z3k l,u.oneCell'=true
 |[],u,h=>by simp[z3k] at h
 |a::r,u,h=>by
  rcases List.mem_cons.1 h with rfl|h
  ·rfl
  ·rcases List.mem_cons.1 h with rfl|h
   ·rfl
   ·exact z4a r u h
def catY (x:List Pt) (F:Nat):Nat->List Pt
 |0=>[]
 |1=>x.drop F
 |_=>x.drop F++x.take F
theorem z5h (b g off c F N:Nat) (x:List Pt) (hN:N<=4096) (h0:F<N) (w:zA)
 (GR:Hid (∀W:zA,zC zF 150 #[.slice none 0 0,.int .i64 (N:Int)] W λe w'=>∃v,e=.returned v/\w'.ownsRow W.heap.size 25 2 v 0 []/\zB W.heap.size W w'))
 (hx:x.length=N) (HX:Hid (∀W:zA,qL w W->∀j u,(z3k x)[j]? =some u->W.cell? ⟨g,off+j,none⟩=some u))
 (HA:Hid (w.heap[b]? =some (.cells #[.slice (some ⟨g,off+F*2,none⟩) (N-F) (c-F),.slice (some ⟨g,off,none⟩) F c] 22 (0,0)))):
 zC zF 93 #[.slice (some ⟨b,0,none⟩) 2 2] w λe w'=>∃v,e=.returned v/\w'.ownsRow w.heap.size 25 2 v N (z3k (x.drop F++x.take F))/\zB w.heap.size w w':=by
 have a0:w.cell? ⟨b,0,none⟩=some (.slice (some ⟨g,off+F*2,none⟩) (N-F) (c-F)):=by have:=HA.out;simp[World.cell?,this]
 have a1:w.cell? ⟨b,1,none⟩=some (.slice (some ⟨g,off,none⟩) F c):=by have:=HA.out;simp[World.cell?,this]
 have hw0:IntKind.i64.wrap (0+((N-F:Nat):Int))=((N-F:Nat):Int):=by rw[zI _ ⟨by omega,by omega⟩];omega
 have hw1:IntKind.i64.wrap (((N-F:Nat):Int)+(F:Int))=(N:Int):=by rw[zI _ ⟨by omega,by omega⟩];omega
 have hn0:¬((N-F:Nat):Int)<0:=by omega
 have hn1:¬(N:Int)<0:=by omega
 go_enter Tryz.func93,Tryz.ntmps93
 go_wp2_with fail
 go_loopw [11,3] (λi z wr=>∃(k:Nat),k<=2/\i=.int .i64 (k:Int)/\z=.int .i64 (if k=0 then 0 else if k=1 then((N-F:Nat):Int) else(N:Int))/\Hid (wr=w))
  (λi _ _=>2-(zL i).toNat)
 case atStart=>exact⟨0,zR _,rfl,rfl,hid rfl⟩
 case round=>
  obtain⟨k,hk,rfl,rfl,hB⟩:=hrel
  obtain rfl:=hB.out.symm
  clear hB
  match k,hk with
  |0,_=>
   go_wp2_with fail
   go_roundw
   case rel=>exact⟨1,by omega,by go_num,by simp,hid trivial⟩
   case measure=>simp[zL]
  |1,_=>
   go_wp2_with fail
   go_roundw
   case rel=>exact⟨2,by omega,by go_num,by simp,hid trivial⟩
   case measure=>simp[zL]
  |2,_=>
   go_wp2_with fail
   refine(GR.out w).mono ?_
   rintro e w1 ⟨v,rfl,hown,hb1⟩
   obtain⟨q0,c0,rfl⟩:=z3z hown
   have HO1:=hid hown;have HB1:=hid hb1
   clear hown hb1 GR hw0 hw1 hn0 hn1
   have hdl:(x.drop F).length=N-F:=by rw[List.length_drop,hx]
   have htl:(x.take F).length=F:=by rw[zX,hx];omega
   have HX0:=hid (⟨hx,hdl,htl⟩:_/\_/\_)
   clear hx hdl htl
   go_wp2_with fail
   go_loopw [27,6] (λi v wr=>∃(k:Nat) (q:Option Addr) (c':Nat),k<=2/\i=.int .i64 (k:Int)/\v=.slice q (catY x F k).length c'/\Hid (qL w wr)/\Hid (wr.ownsRow w.heap.size 25 2 (.slice q (catY x F k).length c') (catY x F k).length (z3k (catY x F k))))
    (λi _ _=>2-(zL i).toNat)
   case atStart=>exact⟨0,q0,c0,zR _,rfl,rfl,HB1,HO1⟩
   case round=>
    obtain⟨k,q,c',hk,rfl,rfl,hB,hO⟩:=hrel
    clear a0 a1
    have a0:wr.cell? ⟨b,0,none⟩=some (.slice (some ⟨g,off+F*2,none⟩) (N-F) (c-F)):=by have:=(hB.out.block _ (Array.getElem?_eq_some_iff.1 HA.out).1).trans HA.out;simp[World.cell?,this]
    have a1:wr.cell? ⟨b,1,none⟩=some (.slice (some ⟨g,off,none⟩) F c):=by have:=(hB.out.block _ (Array.getElem?_eq_some_iff.1 HA.out).1).trans HA.out;simp[World.cell?,this]
    obtain⟨i0,hi,hz0,hz1,hz2⟩:=info_parts z4u
    have HD:=hid (⟨hi,hz0,hz1,hz2⟩:_/\_/\_/\_)
    clear hi hz0 hz1 hz2
    have HN0:=hid (show ∀j u,(z3k (x.drop F))[j]? =some u->wr.cell? ((⟨g,off+F*2,none⟩:Addr).add j)=some u from λj u hu=>by
     rw[z4v,List.getElem?_drop] at hu
     have ea:(⟨g,off+F*2,none⟩:Addr).add j=⟨g,off+F*2+j,none⟩:=by unfold Addr.add;split<;>simp_all
     rw[ea]
     rw[Nat.add_assoc]
     exact HX.out wr hB.out _ _ hu)
    have HN1:=hid (show ∀j u,(z3k (x.take F))[j]? =some u->wr.cell? ((⟨g,off,none⟩:Addr).add j)=some u from λj u hu=>by
     rw[z4w,List.getElem?_take] at hu
     have ea:(⟨g,off,none⟩:Addr).add j=⟨g,off+j,none⟩:=by unfold Addr.add;split<;>simp_all
     rw[ea]
     split at hu
     ·exact HX.out wr hB.out _ _ hu
     ·cases hu)
    have HL:=hid (show(catY x F k).length<=4096 by
     obtain⟨e1,e2,e3⟩:=HX0.out
     match k,hk with
     |0,_=>exact zR _
     |1,_=>show(x.drop F).length<=4096;omega
     |2,_=>show(x.drop F++x.take F).length<=4096;rw[zU];omega)
    match k,hk with
    |0,_=>
     go_wp2_with (at_builtin;refine wpList_append_own_at _ rfl _ _ 22 rfl w.heap.size 25 i0 (.agg #[St [],St []]) 2 32 Tryz.underlying22 HD.out.1 HD.out.2.1 HD.out.2.2.1 HD.out.2.2.2 rfl (by decide) (.slice q (catY x F 0).length c') (catY x F 0).length (z3k (catY x F 0)) rfl hO.out ⟨g,off+F*2,none⟩ (N-F) (c-F) (z3k (x.drop F)) rfl (by rw[z3v,HX0.out.2.1]) HN0.out (z4a _) (by have:=HL.out;unfold maxLen;omega) (by have:=HL.out;omega) hB.out.size ?_)
     intro v' w2 hown' hgrow hnil hat
     obtain⟨q',c2,rfl⟩:=z3z hown'
     have HB2:=hid (hB.out.grown hgrow hB.out.size (λg e=>(hO.out.lt g e).1))
     have HO2:=hid (show w2.ownsRow w.heap.size 25 2 (.slice q' (catY x F 1).length c2) (catY x F 1).length (z3k (catY x F 1)) by
      have e:catY x F 1=catY x F 0++(x.drop F):=(List.nil_append _).symm
      rw[e,zU,HX0.out.2.1,z39];exact hown')
     have HE:=hid (show(catY x F 0).length+(N-F)=(catY x F 1).length by
      have e:catY x F 1=catY x F 0++(x.drop F):=(List.nil_append _).symm
      rw[e,zU,HX0.out.2.1])
     clear hown' hgrow hnil hat
     go_wp2_with fail
     go_roundw
     case rel=>exact⟨1,q',c2,by omega,by go_num,by rw[<-HE.out],HB2,HO2⟩
     case measure=>simp[zL]
    |1,_=>
     go_wp2_with (at_builtin;refine wpList_append_own_at _ rfl _ _ 22 rfl w.heap.size 25 i0 (.agg #[St [],St []]) 2 32 Tryz.underlying22 HD.out.1 HD.out.2.1 HD.out.2.2.1 HD.out.2.2.2 rfl (by decide) (.slice q (catY x F 1).length c') (catY x F 1).length (z3k (catY x F 1)) rfl hO.out ⟨g,off,none⟩ F c (z3k (x.take F)) rfl (by rw[z3v,HX0.out.2.2]) HN1.out (z4a _) (by have:=HL.out;unfold maxLen;omega) (by have:=HL.out;omega) hB.out.size ?_)
     intro v' w2 hown' hgrow hnil hat
     obtain⟨q',c2,rfl⟩:=z3z hown'
     have HB2:=hid (hB.out.grown hgrow hB.out.size (λg e=>(hO.out.lt g e).1))
     have HO2:=hid (show w2.ownsRow w.heap.size 25 2 (.slice q' (catY x F 2).length c2) (catY x F 2).length (z3k (catY x F 2)) by
      have e:catY x F 2=catY x F 1++(x.take F):=rfl
      rw[e,zU,HX0.out.2.2,z39];exact hown')
     have HE:=hid (show(catY x F 1).length+F=(catY x F 2).length by
      have e:catY x F 2=catY x F 1++(x.take F):=rfl
      rw[e,zU,HX0.out.2.2])
     clear hown' hgrow hnil hat
     go_wp2_with fail
     go_roundw
     case rel=>exact⟨2,q',c2,by omega,by go_num,by rw[<-HE.out],HB2,HO2⟩
     case measure=>simp[zL]
    |2,_=>
     have HE:=hid (show(catY x F 2).length=N by
      obtain⟨e1,e2,e3⟩:=HX0.out
      show(x.drop F++x.take F).length=N;rw[zU];omega)
     go_wp2_with fail
     go_ret
     refine⟨_,rfl,?_,hB.out⟩
     have:=hO.out
     rw[HE.out] at this
     rw[HE.out]
     exact this
theorem z52:∀(y:List Pt) (i:Nat) (p:Pt),z3k (y.set i p)=((z3k y).set (i*2) (St (numS p.x))).set (i*2+1) (St (numS p.y))
 |[],i,p=>by simp[z3k]
 |a::r,0,p=>rfl
 |a::r,i+1,p=>by
  rw[List.set_cons_succ,show(i+1)*2=i*2+1+1 by omega]
  show St (numS a.x)::St (numS a.y)::z3k (r.set i p)=_
  rw[z52 r i p]
  rfl
theorem z6l {W:zA} {B g N c:Nat} {y:List Pt} (h:W.ownsRow B 25 2 (.slice (some ⟨g,0,none⟩) N c) N (z3k y)) (i:Nat) (p:Pt):
 ((W.setCell ⟨g,i*2,none⟩ (St (numS p.x))).setCell ⟨g,i*2+1,none⟩ (St (numS p.y))).ownsRow B 25 2 (.slice (some ⟨g,0,none⟩) N c) N (z3k (y.set i p)):=by
 obtain⟨hl,ho⟩:=h
 rcases ho with⟨e,_⟩|⟨g',cap,cur,e,hb,hg,h1,h2,h3,h4⟩
 ·cases e
 ·cases e
  refine⟨by rw[z3v,List.length_set,<-z3v];exact hl,.inr ⟨g,c,_,rfl,hb,zK (zK hg _) _,h1,h2,by simpa using h3,?_⟩⟩
  rw[z52,<-h4]
  simp[List.take_set]
theorem z5t {W:zA} {B g N c:Nat} {xs:List Value} (h:W.ownsRow B 25 2 (.slice (some ⟨g,0,none⟩) N c) N xs) (i:Nat):W.frozen? ⟨g,i,none⟩=false:=by
 rcases h.2 with⟨e,_⟩|⟨g',cap,cur,e,hb,hg,_⟩
 ·cases e
 ·cases e;simp[World.frozen?,hg]
theorem z45 {W:zA} {B g N c:Nat} {xs:List Value} (h:W.ownsRow B 25 2 (.slice (some ⟨g,0,none⟩) N c) N xs):B<=g:=by
 rcases h.2 with⟨e,_⟩|⟨g',cap,cur,e,hb,hg,_⟩
 ·cases e
 ·cases e;exact hb
theorem z47 {W:zA} {B g N c:Nat} {y:List Pt} (h:W.ownsRow B 25 2 (.slice (some ⟨g,0,none⟩) N c) N (z3k y)) (hy:y.length=N) {i:Nat} (hi:i<N):W.cell? ⟨g,i*2,none⟩=some (St (numS (cor y i).x))/\W.cell? ⟨g,i*2+1,none⟩=some (St (numS (cor y i).y)):=by
 obtain⟨g',c',e,_,hc⟩:=z30 h (by omega)
 cases e
 obtain⟨h1,h2⟩:=z5o y i (by omega)
 exact⟨hc _ _ h1,hc _ _ h2⟩
def revK (x y:List Pt) (k:Nat):Prop:=y.length=x.length/\∀t,t<x.length->cor y t=if t<k\/x.length-1<t+k then cor x (x.length-1-t) else cor x t
theorem z6m {y:List Pt} {i t:Nat} {p:Pt} (ht:t<y.length):cor (y.set i p) t=if i=t then p else cor y t:=by
 rw[z3r (by simpa using ht),z3r ht,List.getElem_set]
theorem z7a {x y:List Pt} {k:Nat} (h:revK x y k) (hk:2*k+1<x.length):revK x ((y.set k (cor y (x.length-1-k))).set (x.length-1-k) (cor y k)) (k+1):=by
 obtain⟨hl,h⟩:=h
 refine⟨by simp[hl],λt ht=>?_⟩
 have e1:cor y (x.length-1-k)=cor x (x.length-1-k):=by rw[h _ (by omega),if_neg (by omega)]
 have e2:cor y k=cor x k:=by rw[h _ (by omega),if_neg (by omega)]
 rw[z6m (by simp[hl];omega),z6m (by omega),e1,e2]
 by_cases c1:x.length-1-k=t
 ·rw[if_pos c1,if_pos (by omega)];congr 1;omega
 ·rw[if_neg c1]
  by_cases c2:k=t
  ·rw[if_pos c2,if_pos (by omega),c2]
  ·rw[if_neg c2,h t ht]
   by_cases c3:t<k\/x.length-1<t+k
   ·rw[if_pos c3,if_pos (by omega)]
   ·rw[if_neg c3,if_neg (by omega)]
theorem z7y {x y:List Pt} {k:Nat} (h:revK x y k) (hk:x.length<=2*k+1):y=x.reverse:=by
 obtain⟨hl,h⟩:=h
 refine z6k (by simp[hl]) λt ht=>?_
 rw[hl] at ht
 rw[h t ht,z4i x ht]
 by_cases c:t<k\/x.length-1<t+k
 ·rw[if_pos c]
 ·rw[if_neg c];congr 1;omega
def revY (y:List Pt) (k j:Nat) (f:Nat->Bool):List Pt:=if f 15=true then(y.set k (cor y j)).set j (cor y k) else if f 13=true then y.set k (cor y j) else y
structure RevS (w:zA) (B g N c:Nat) (y:List Pt) (k j:Nat) (q:Nat) (f:Nat->Bool) (W:zA):Prop where
 bel:zB B w W
 own:W.ownsRow B 25 2 (.slice (some ⟨g,0,none⟩) N c) N (z3k (revY y k j f))
theorem RevS.congr {w W:zA} {B g N c:Nat} {y:List Pt} {k j q:Nat} {f f':Nat->Bool} (h:RevS w B g N c y k j q f W) (e13:f' 13=f 13) (e15:f' 15=f 15):RevS w B g N c y k j q f' W:=
 ⟨h.bel,by have:=h.own;unfold revY at this⊢;rw[e13,e15];exact this⟩
def revV (g N c k j:Nat) (xi yi xj yj:List UInt8) (_:Nat) (i:Nat):Value:=
 ([.slice (some ⟨g,0,none⟩) N c,.int .i64 (k:Int),.slice (some ⟨g,0,none⟩) N c,.int .i64 (j:Int),.slice (some ⟨g,0,none⟩) N c,.int .i64 (j:Int),.pointer (some ⟨g,j*2,none⟩),.agg #[St xj,St yj],.slice (some ⟨g,0,none⟩) N c,.int .i64 (k:Int),.pointer (some ⟨g,k*2,none⟩),.agg #[St xi,St yi],.pointer (some ⟨g,k*2,none⟩),undef,.pointer (some ⟨g,j*2,none⟩),undef]:List Value).getD i undef
theorem z48 (B g c N:Nat) (x:List Pt) (hx:x.length=N) (h0:0<N) (hN:N<=4096) (w:zA)
 (HO:Hid (w.ownsRow B 25 2 (.slice (some ⟨g,0,none⟩) N c) N (z3k x))):
 zC zF 92 #[.slice (some ⟨g,0,none⟩) N c] w λe w'=>e=.returned (.tuple #[])/\w'.ownsRow B 25 2 (.slice (some ⟨g,0,none⟩) N c) N (z3k x.reverse)/\zB B w w':=by
 have HG:=hid (z45 HO.out)
 have hw0:IntKind.i64.wrap ((N:Int)-1)=((N-1:Nat):Int):=by rw[zI _ ⟨by omega,by omega⟩];omega
 have HXN:=hid hx;clear hx
 go_enter Tryz.func92,Tryz.ntmps92
 go_wp2_with fail
 go_loopw [2,3] (λi j wr=>∃(k:Nat) (y:List Pt),2*k<=N/\i=.int .i64 (k:Int)/\j=.int .i64 ((N-1-k:Nat):Int)/\Hid (revK x y k)/\Hid (zB B w wr)/\Hid (wr.ownsRow B 25 2 (.slice (some ⟨g,0,none⟩) N c) N (z3k y)))
  (λi _ _=>N-(zL i).toNat)
 case atStart=>exact⟨0,x,by omega,rfl,rfl,⟨rfl,λt ht=>by rw[if_neg (by omega)]⟩,zM _ _,HO⟩
 case round=>
  obtain⟨k,y,hk,rfl,rfl,hR,hB,hO⟩:=hrel
  clear hw0
  by_cases hlt:2*k+1<N
  ·obtain⟨j,hj⟩:∃j,j=N-1-k:=⟨_,rfl⟩
   have hR2:=hid (z7a hR.out (by rw[HXN.out];exact hlt))
   have hyl:=hid (hR.out.1.trans HXN.out)
   rw[HXN.out] at hR2
   rw[<-hj] at hR2⊢
   have hkj:(k:Int)<(j:Int):=by omega
   have hkN:k<N:=by omega
   have hjN:j<N:=by omega
   have hw1:IntKind.i64.wrap ((k:Int)+1)=((k+1:Nat):Int):=by rw[zI _ ⟨by omega,by omega⟩];omega
   have hw2:IntKind.i64.wrap ((j:Int)-1)=((N-1-(k+1):Nat):Int):=by rw[zI _ ⟨by omega,by omega⟩];omega
   have HJ:=hid (⟨hj,hlt⟩:_/\_)
   clear hj hlt hR
   obtain⟨xi,hxi⟩:∃xi,numS (cor y k).x=xi:=⟨_,rfl⟩
   obtain⟨yi,hyi⟩:∃yi,numS (cor y k).y=yi:=⟨_,rfl⟩
   obtain⟨xj,hxj⟩:∃xj,numS (cor y j).x=xj:=⟨_,rfl⟩
   obtain⟨yj,hyj⟩:∃yj,numS (cor y j).y=yj:=⟨_,rfl⟩
   have HV:=hid (⟨hxi,hyi,hxj,hyj⟩:_/\_/\_/\_)
   clear hxi hyi hxj hyj
   go_wp2_with fail
   refine zc4 (revV g N c k j xi yi xj yj) (RevS w B g N c y k j) (by kernel_rfl) (by kernel_rfl) 0 ⟨hB.out.drew,hO.out⟩ λq=>?_
   refine qB (.slice (some ⟨g,0,none⟩) N c) (λf W' h=>h.congr rfl rfl) ?_
   simp only[zzQ]
   refine qB (.int .i64 (k:Int)) (λf W' h=>h.congr rfl rfl) ?_
   simp only[zzQ]
   refine qB (.slice (some ⟨g,0,none⟩) N c) (λf W' h=>h.congr rfl rfl) ?_
   simp only[zzQ]
   refine qB (.int .i64 (j:Int)) (λf W' h=>h.congr rfl rfl) ?_
   simp only[zzQ]
   refine qB (.slice (some ⟨g,0,none⟩) N c) (λf W' h=>h.congr rfl rfl) ?_
   simp only[zzQ]
   refine qB (.int .i64 (j:Int)) (λf W' h=>h.congr rfl rfl) ?_
   simp only[zzQ]
   refine qB (.pointer (some ⟨g,j*2,none⟩)) (λf W' h=>h.congr rfl rfl) ?_
   simp only[zzQ]
   refine qB (.agg #[St xj,St yj]) (λf W' h=>h.congr rfl rfl) ?_ (hy:=λf W' hf h=>by
    have h13:=hf.no (j:=13) hf.self (by kernel_rfl)
    have h15:=hf.no (j:=15) hf.self (by kernel_rfl)
    have ho:=h.own
    rw[show revY y k j f=y by unfold revY;rw[h13,h15];rfl] at ho
    obtain⟨c0,c1⟩:=z47 ho hyl.out hjN
    obtain⟨v1,v2,v3,v4⟩:=HV.out
    rw[v3] at c0;rw[v4] at c1
    go_simp)
   try simp only[zzQ]
   refine qB (.slice (some ⟨g,0,none⟩) N c) (λf W' h=>h.congr rfl rfl) ?_
   simp only[zzQ]
   refine qB (.int .i64 (k:Int)) (λf W' h=>h.congr rfl rfl) ?_
   simp only[zzQ]
   refine qB (.pointer (some ⟨g,k*2,none⟩)) (λf W' h=>h.congr rfl rfl) ?_
   simp only[zzQ]
   refine qB (.agg #[St xi,St yi]) (λf W' h=>h.congr rfl rfl) ?_ (hy:=λf W' hf h=>by
    have h13:=hf.no (j:=13) hf.self (by kernel_rfl)
    have h15:=hf.no (j:=15) hf.self (by kernel_rfl)
    have ho:=h.own
    rw[show revY y k j f=y by unfold revY;rw[h13,h15];rfl] at ho
    obtain⟨c0,c1⟩:=z47 ho hyl.out hkN
    obtain⟨v1,v2,v3,v4⟩:=HV.out
    rw[v1] at c0;rw[v2] at c1
    go_simp)
   try simp only[zzQ]
   refine qB (.pointer (some ⟨g,k*2,none⟩)) (λf W' h=>h.congr rfl rfl) ?_
   simp only[zzQ]
   refine zbv undef (by rfl) (by rfl) (λf W' hf h C' hC'=>by
    have h13:=hf.self
    have h15:=hf.no (j:=15) hf.self (by kernel_rfl)
    have ho:=h.own
    rw[show revY y k j f=y by unfold revY;simp[h13,h15]] at ho
    obtain⟨c0,c1⟩:=z47 ho (by have:=hyl.out;simp[this]) hkN
    have z0:=z5t ho (k*2);have z1:=z5t ho (k*2+1)
    have hp:=z6l ho k (cor y j)
    obtain⟨v1,v2,v3,v4⟩:=HV.out
    rw[v3,v4] at hp
    have hB':=z45 ho
    have hc:=hC' _ (⟨(h.bel.setCell (by simp;omega) _).setCell (by simp;omega) _,(by unfold revY;simp[h15];exact hp)⟩:RevS w B g N c y k j q (λi=>if 13=i then true else f i) ((W'.setCell ⟨g,k*2,none⟩ (St xj)).setCell ⟨g,k*2+1,none⟩ (St yj)))
    clear ho hp h
    go_simp
    exact hc) ?_
   try simp only[zzQ]
   refine qB (.pointer (some ⟨g,j*2,none⟩)) (λf W' h=>h.congr rfl rfl) ?_
   simp only[zzQ]
   refine zbv undef (by rfl) (by rfl) (λf W' hf h C' hC'=>by
    have h13:=hf.done 13 (by kernel_rfl)
    have h15:=hf.self
    have ho:=h.own
    rw[show revY y k j f=y.set k (cor y j) by unfold revY;simp[h13,h15]] at ho
    obtain⟨c0,c1⟩:=z47 ho (by have:=hyl.out;simp[this]) hjN
    have z0:=z5t ho (j*2);have z1:=z5t ho (j*2+1)
    have hp:=z6l ho j (cor y k)
    obtain⟨v1,v2,v3,v4⟩:=HV.out
    rw[v1,v2] at hp
    have hB':=z45 ho
    have hc:=hC' _ (⟨(h.bel.setCell (by simp;omega) _).setCell (by simp;omega) _,(by unfold revY;simp[];exact hp)⟩:RevS w B g N c y k j q (λi=>if 15=i then true else f i) ((W'.setCell ⟨g,j*2,none⟩ (St xi)).setCell ⟨g,j*2+1,none⟩ (St yi)))
    clear ho hp h
    go_simp
    exact hc) ?_
   try simp only[zzQ]
   refine ze1 λf W5 hf h=>?_
   have HF:=hid h
   have HL:=hid (show revY y k j f=(y.set k (cor y j)).set j (cor y k) from if_pos (hf 15 (by decide)))
   clear h hf
   go_wp2_with fail
   go_roundw
   case rel=>exact⟨k+1,(y.set k (cor y j)).set j (cor y k),by have:=HJ.out.2;omega,by first|go_num|rfl,by first|go_num|rfl,hR2,HF.out.bel,by rw[<-HL.out];exact HF.out.own⟩
   case measure=>simp[zL];omega
  ·have hkj:¬(k:Int)<((N-1-k:Nat):Int):=by omega
   have HE:=hid (z7y hR.out (by rw[HXN.out];omega))
   clear hlt hR
   go_wp2_with fail
   go_end0
   exact⟨rfl,by rw[<-HE.out];exact hO.out,hB.out⟩
theorem z4h (o:List Pt) (h:0<o.length):(z31 o).length=o.length:=by
 obtain⟨h1,_⟩:=z4f h o.length (zN _)
 unfold z31
 generalize z3l o o.length=f at*
 split
 ·simp;omega
 ·simp;omega
theorem z5f (l:List Pt):(z3n l).length<=l.length:=(z5m l).length_le
theorem z8e {l:List Pt} {k:Nat} (hz:∀p∈l,szP p k) (h0:0<(z3n l).length) (i:Nat):szP (cor (z3n l) i) k:=by
 rw[<-zt4,z3r (zP _ h0)]
 exact hz _ ((z5m l).subset (List.getElem_mem _))
theorem z49 {l:List Pt} {k:Nat} (hz:∀p∈l,szP p k) (h0:0<l.length) (i:Nat):szP (cor l i) k:=by
 rw[<-zt4,z3r (zP _ h0)]
 exact hz _ (List.getElem_mem _)
theorem z4j {p:Option Addr} {l:List Pt} {W:zA} (h:RowPts p l W) (h0:0<l.length):∃b off,p=some ⟨b,off,none⟩/\∀W':zA,qL W W'->∀k,W'.cell? ⟨b,off+k%l.length*2,none⟩=some (St (numS (cor l k).x))/\W'.cell? ⟨b,off+k%l.length*2+1,none⟩=some (St (numS (cor l k).y)):=by
 obtain⟨b,off,e,_⟩:=h 0 h0
 refine⟨b,off,e,λW' hb k=>?_⟩
 obtain⟨b',off',e',h1,h2⟩:=(h.keep (zac hb)) (k%l.length) (zP _ h0)
 rw[e] at e'
 cases e'
 rw[zj4 l _ (zP _ h0),zt4] at h1 h2
 exact⟨h1,h2⟩
theorem z5a {W:zA} {B B':Nat} {e:TypeId} {s:Nat} {v:Value} {n:Nat} {xs:List Value} (h:W.ownsRow B e s v n xs) (hb:B'<=B):W.ownsRow B' e s v n xs:=by
 refine⟨h.1,?_⟩
 rcases h.2 with h|⟨g,cap,cur,e,h1,h2⟩
 ·exact .inl h
 ·exact .inr ⟨g,cap,cur,e,by omega,h2⟩
theorem z4k (p:Option Addr) (cap:Nat) (l:List Pt) (h3:3<=l.length) (hlen:l.length<=4096) (hz:∀q∈l,szP q 36) (hp:z3q l) (w:zA) (hw:Wd w) (hr:RowPts p l w):
 zC zF 41 #[.slice p l.length cap] w λe w'=>∃v,e=.returned v/\w'.ownsRow w.heap.size 25 2 v (z3p l).length (z3k (z3p l))/\zB w.heap.size w w':=by
 have h0:0<(z3n l).length:=List.length_pos_iff.2 (zkl h3 hp)
 have hk:=z5f l
 have hks:=z8e hz h0
 have hcs:=z49 hz (by omega)
 obtain⟨b,off,rfl,hc⟩:=z4j hr (by omega)
 have e:(z3p l).length=(z3n l).length:=z4h _ h0
 rw[e]
 refine z5w b off cap l.length (z3n l) h0 (by omega) w (hid hw)
  (hid (z6b b off cap l h3 hlen (hid λk W hW=>z8d l k hcs W hW) w (hid hw) (hid hc)))
  (hid λi j W hW=>zmy _ _ 36 36 (by omega) (by omega) (by omega) (hks i) (hks j) W hW)
  (hid λg c W ho=>z48 w.heap.size g c (z3n l).length (z3n l) rfl h0 (by omega) W (hid ho))
  (hid λg c F b' x hx hF W hs ho ha=>?_)
  (hid λi j k W hW=>zjg _ _ _ 36 (by omega) (by omega) (hks i) (hks j) (hks k) W hW)
 refine(z5h b' g 0 c F (z3n l).length x (by omega) hF W (hid λW'=>z50 _ (by omega) (by omega) W') hx (hid λW' hb j u hu=>?_) (hid (by simpa using ha))).mono ?_
 ·obtain⟨g',c',e',_,hcc⟩:=z30 ho h0
  cases e'
  rw[Nat.zero_add]
  exact(zac hb).cell (hcc j u hu)
 ·rintro e w' ⟨v,rfl,h1,h2⟩
  exact⟨v,rfl,z5a h1 hs,h2⟩
end
end Go.Proofs.YthfpmfdiamldoaaGreatDoor
