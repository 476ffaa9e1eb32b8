/- polygon.sides: the iterator's contract. -/
import Derived.Test.YtbjomkfgicffhaaGreatDoorQ13
import Derived.Test.YtbjomkfgicffhaaGreatDoorQ14
set_option maxRecDepth 100000
set_option maxHeartbeats 8000000
namespace Go.Proofs.YtbjomkfgicffhaaGreatDoor
open Go.RowKit Go.Shelf Lib Str Limb
attribute [local go_sem] Oper.semAt_some
theorem zfr (v:Value) (w:World) (p:Option Addr) (n cap:Nat) (hv:v=.slice p n cap):
 Calls Tryz.prog 34 #[v] w λe w'=>e=.returned (.func (.func 69) #[] #[.pointer (some ⟨w.heap.size,0,none⟩)])/\w.alloc (.cells #[v] 26)=w':=by
 subst hv
 go_enter Tryz.func34,Tryz.ntmps34
 go_wp2
 go_ret
 exact⟨rfl,rfl⟩
theorem zai {W W':World} (h:Below W.heap.size W W') {b o:Nat} {v:Value} (hc:W.cell? ⟨b,o,none⟩=some v):W'.cell? ⟨b,o,none⟩=some v:=(zac h).cell hc
def ptOf (l:List (List UInt8×List UInt8)) (i:Nat):List UInt8×List UInt8:=l[i]?.getD ([],[])
def zls (Bs:Nat) (p:Option Addr) (cap:Nat) (l:List (List UInt8×List UInt8)) (W:World):Prop:=
 W.cell? ⟨Bs,0,none⟩=some (.slice p l.length cap)/\∀i,i<l.length->∃b off,p=some ⟨b,off,none⟩/\W.cell? ⟨b,off+i*2,none⟩=some (St (ptOf l i).1)/\W.cell? ⟨b,off+i*2+1,none⟩=some (St (ptOf l i).2)
def zk9 (l:List (List UInt8×List UInt8)) (k:Nat):Value:=
 .agg #[St (ptOf l k).1,St (ptOf l k).2,St (ptOf l ((k+1)%l.length)).1,St (ptOf l ((k+1)%l.length)).2]
theorem zgi (n:Nat) (hn:1<=n) (Bs:Nat) (l:List (List UInt8×List UInt8)) (hlen:l.length<=5000) (Rd:World->Prop) (p:Option Addr) (cap:Nat) (hRd:∀W,Rd W->zls Bs p cap l W):
 IterC Fence.wide n Tryz.prog 69 #[.pointer (some ⟨Bs,0,none⟩)] Rd (λk args=>args= #[I k,zk9 l k]) l.length:=by
 intro lp J Jx W hJr hJb hY h0
 refine callsIn_of_wp Tryz.func69 rfl trivial ?_ rfl
 simp only[Tryz.ntmps69,List.size_toArray,List.length_cons,List.length_nil,Nat.reduceAdd,Nat.reduceSub,Array.replicate_succ,Array.replicate_zero,List.push_toArray,List.append_toArray,List.nil_append,List.cons_append]
 obtain⟨hb,hcs⟩:=hRd W (hJr 0 W h0)
 obtain⟨N,hN⟩:∃N,N=l.length:=⟨_,rfl⟩
 have HRd:=hid λk W h=>hRd W (hJr k W h);clear hRd hJr
 have HY:=hid hY;clear hY
 have HJB:=hid hJb;clear hJb
 rw[<-hN] at hb hlen HY⊢
 have HN:=hid hN;clear hN hcs
 gi_wp2
 gi_loopw [7] (λi wr=>∃(k:Nat),k<=N/\i=.int .i64 (k:Int)/\Hid (J k wr))
  (λi _=>N-(RowKit.intOf i).toNat)
 case atStart=>exact⟨0,Nat.zero_le _,rfl,h0⟩
 case round=>
  clear hb
  obtain⟨k,hk,rfl,hJ⟩:=hrel
  by_cases hlt:k<N
  ·have hlN:l.length=N:=HN.out.symm
   obtain⟨hb,hc⟩:=HRd.out k wr hJ.out
   have hk2:(k+1)%N<N:=Nat.mod_lt _ (by omega)
   obtain⟨b,off,rfl,c0,c1⟩:=hc k (by omega)
   obtain⟨b',off',e,d0,d1⟩:=hc ((k+1)%N) (by omega)
   cases e
   rw[hlN] at hb
   have HY1:=hid λW h=>HY.out k #[I k,zk9 l k] W h hlt rfl
   unfold zk9 at HY1
   rw[hlN] at HY1
   clear HY HRd hc
   generalize (ptOf l k).1=x1 at c0 HY1
   generalize (ptOf l k).2=y1 at c1 HY1
   generalize (ptOf l ((k+1)%N)).1=x2 at d0 HY1
   generalize (ptOf l ((k+1)%N)).2=y2 at d1 HY1
   clear hlN HN
   have hm:Int.tmod ((k:Int)+1) (N:Int)=((k+1)%N:Nat):=by
    rw[show((k:Int)+1)=((k+1:Nat):Int) by omega];rfl
   generalize (k+1)%N=j at hk2 d0 d1 hm
   have hN0:¬N=0:=by omega
   have hwr:IntKind.i64.wrap ((k:Int)+1)=(k:Int)+1:=IntWalk.i64_in _ ⟨by omega,by omega⟩
   obtain⟨W4,hW4⟩:∃W4,W4=wr.alloc (.cells #[St x1,St y1] 24):=⟨_,rfl⟩
   have hB4:Below wr.heap.size wr W4:=by rw[hW4];exact(Below.refl _ wr).alloc (Nat.le_refl _) _
   have A4:W4.heap[wr.heap.size]? =some (.cells #[St x1,St y1] 24 (0,0)):=by rw[hW4];exact World.alloc_heap_new wr _
   have e0:W4.drew.cell? ⟨wr.heap.size,0,none⟩=some (St x1):=by show W4.cell? _=_;simp[World.cell?,A4]
   have e1:W4.drew.cell? ⟨wr.heap.size,1,none⟩=some (St y1):=by show W4.cell? _=_;simp[World.cell?,A4]
   have hb4:W4.drew.cell? ⟨Bs,0,none⟩=some (.slice (some ⟨b,off,none⟩) N cap):=zai hB4 hb
   have d04:W4.drew.cell? ⟨b,off+j*2,none⟩=some (St x2):=zai hB4 d0
   have d14:W4.drew.cell? ⟨b,off+j*2+1,none⟩=some (St y2):=zai hB4 d1
   have hJ4:=HJB.out k wr W4.drew hJ.out hB4.drew
   obtain⟨fn,tmps,assign,body,hy,hR⟩:=HY1.out W4.drew hJ4
   have HW4:=hid hW4;clear hW4 HY1 A4
   gi_wp2
   rw[<-HW4.out]
   refine zns (λ_=>trivial) rfl (λ(g:Bool) i=>([.func (.yield lp) #[] #[],.int .i64 (k:Int),.agg #[St x1,St y1],.slice (some ⟨b,off,none⟩) N cap,.int .i64 (k:Int),.int .i64 ((k:Int)+1),.slice (some ⟨b,off,none⟩) N cap,.int .i64 (N:Int),.int .i64 (j:Int),.pointer (some ⟨b,off+j*2,none⟩),.agg #[St x2,St y2],.agg #[St x1,St y1,St x2,St y2],.bool g,.bool !g]:List Value).getD i undef)
    (λg f W'=>(f 12=false->W'=W4.drew)/\(f 12=true->(g=true/\J (k+1) W')\/(g=false/\Jx W'))) (by kernel_rfl) (by kernel_rfl) true ⟨λ_=>rfl,λh=>by cases h⟩ λg=>?_
   refine zct (.func (.yield lp) #[] #[]) (by rfl) (by rfl) (λf W' h=>⟨h.1,h.2⟩) (λf W' hf h=>by
    obtain rfl:=h.1 (hf.no (j:=12) hf.self (by kernel_rfl))
    go_simp) ?_
   try simp only[Act.put,zzA,zzB,zzC]
   refine zct (.int .i64 (k:Int)) (by rfl) (by rfl) (λf W' h=>⟨h.1,h.2⟩) (λf W' hf h=>by
    obtain rfl:=h.1 (hf.no (j:=12) hf.self (by kernel_rfl))
    go_simp) ?_
   try simp only[Act.put,zzA,zzB,zzC]
   refine zct (.agg #[St x1,St y1]) (by rfl) (by rfl) (λf W' h=>⟨h.1,h.2⟩) (λf W' hf h=>by
    obtain rfl:=h.1 (hf.no (j:=12) (hf.no (j:=11) hf.self (by kernel_rfl)) (by kernel_rfl))
    go_simp) ?_
   try simp only[Act.put,zzA,zzB,zzC]
   refine zct (.slice (some ⟨b,off,none⟩) N cap) (by rfl) (by rfl) (λf W' h=>⟨h.1,h.2⟩) (λf W' hf h=>by
    obtain rfl:=h.1 (hf.no (j:=12) (hf.no (j:=11) (hf.no (j:=10) (hf.no (j:=9) hf.self (by kernel_rfl)) (by kernel_rfl)) (by kernel_rfl)) (by kernel_rfl))
    go_simp) ?_
   try simp only[Act.put,zzA,zzB,zzC]
   refine zct (.int .i64 (k:Int)) (by rfl) (by rfl) (λf W' h=>⟨h.1,h.2⟩) (λf W' hf h=>by
    obtain rfl:=h.1 (hf.no (j:=12) (hf.no (j:=11) (hf.no (j:=10) (hf.no (j:=9) (hf.no (j:=8) (hf.no (j:=5) hf.self (by kernel_rfl)) (by kernel_rfl)) (by kernel_rfl)) (by kernel_rfl)) (by kernel_rfl)) (by kernel_rfl))
    go_simp) ?_
   try simp only[Act.put,zzA,zzB,zzC]
   refine zct (.int .i64 ((k:Int)+1)) (by rfl) (by rfl) (λf W' h=>⟨h.1,h.2⟩) (λf W' hf h=>by
    obtain rfl:=h.1 (hf.no (j:=12) (hf.no (j:=11) (hf.no (j:=10) (hf.no (j:=9) (hf.no (j:=8) hf.self (by kernel_rfl)) (by kernel_rfl)) (by kernel_rfl)) (by kernel_rfl)) (by kernel_rfl))
    go_simp) ?_
   try simp only[Act.put,zzA,zzB,zzC]
   refine zct (.slice (some ⟨b,off,none⟩) N cap) (by rfl) (by rfl) (λf W' h=>⟨h.1,h.2⟩) (λf W' hf h=>by
    obtain rfl:=h.1 (hf.no (j:=12) (hf.no (j:=11) (hf.no (j:=10) (hf.no (j:=9) (hf.no (j:=8) (hf.no (j:=7) hf.self (by kernel_rfl)) (by kernel_rfl)) (by kernel_rfl)) (by kernel_rfl)) (by kernel_rfl)) (by kernel_rfl))
    go_simp) ?_
   try simp only[Act.put,zzA,zzB,zzC]
   refine zct (.int .i64 (N:Int)) (by rfl) (by rfl) (λf W' h=>⟨h.1,h.2⟩) (λf W' hf h=>by
    obtain rfl:=h.1 (hf.no (j:=12) (hf.no (j:=11) (hf.no (j:=10) (hf.no (j:=9) (hf.no (j:=8) hf.self (by kernel_rfl)) (by kernel_rfl)) (by kernel_rfl)) (by kernel_rfl)) (by kernel_rfl))
    go_simp) ?_
   try simp only[Act.put,zzA,zzB,zzC]
   refine zct (.int .i64 (j:Int)) (by rfl) (by rfl) (λf W' h=>⟨h.1,h.2⟩) (λf W' hf h=>by
    obtain rfl:=h.1 (hf.no (j:=12) (hf.no (j:=11) (hf.no (j:=10) (hf.no (j:=9) hf.self (by kernel_rfl)) (by kernel_rfl)) (by kernel_rfl)) (by kernel_rfl))
    go_simp) ?_
   try simp only[Act.put,zzA,zzB,zzC]
   refine zct (.pointer (some ⟨b,off+j*2,none⟩)) (by rfl) (by rfl) (λf W' h=>⟨h.1,h.2⟩) (λf W' hf h=>by
    obtain rfl:=h.1 (hf.no (j:=12) (hf.no (j:=11) (hf.no (j:=10) hf.self (by kernel_rfl)) (by kernel_rfl)) (by kernel_rfl))
    go_simp) ?_
   try simp only[Act.put,zzA,zzB,zzC]
   refine zct (.agg #[St x2,St y2]) (by rfl) (by rfl) (λf W' h=>⟨h.1,h.2⟩) (λf W' hf h=>by
    obtain rfl:=h.1 (hf.no (j:=12) (hf.no (j:=11) hf.self (by kernel_rfl)) (by kernel_rfl))
    go_simp) ?_
   try simp only[Act.put,zzA,zzB,zzC]
   refine zct (.agg #[St x1,St y1,St x2,St y2]) (by rfl) (by rfl) (λf W' h=>⟨h.1,h.2⟩) (λf W' hf h=>by
    obtain rfl:=h.1 (hf.no (j:=12) hf.self (by kernel_rfl))
    go_simp) ?_
   try simp only[Act.put,zzA,zzB,zzC]
   refine z1v (.bool g) (by rfl) (by rfl) (λf W' hf h C' hC'=>by
    obtain rfl:=h.1 hf.self
    go_simp
    refine⟨λ_=>by omega,hR.mono ?_⟩
    rintro e W3 (⟨rfl,hJ3⟩|⟨rfl,hJx3⟩)
    ·refine⟨_,rfl,hC' true W3 (λi hi=>?_) ⟨λh=>(by cases h),λ_=>.inl ⟨rfl,hJ3⟩⟩⟩
     match i,hi with
     |0,_|1,_|2,_|3,_|4,_|5,_|6,_|7,_|8,_|9,_|10,_|11,_=>rfl
     |12,hi=>rw[hf.self] at hi;cases hi
     |13,hi=>rw[hf.no (j:=13) hf.self (by kernel_rfl)] at hi;cases hi
     |_+14,_=>rfl
    ·refine⟨_,rfl,hC' false W3 (λi hi=>?_) ⟨λh=>(by cases h),λ_=>.inr ⟨rfl,hJx3⟩⟩⟩
     match i,hi with
     |0,_|1,_|2,_|3,_|4,_|5,_|6,_|7,_|8,_|9,_|10,_|11,_=>rfl
     |12,hi=>rw[hf.self] at hi;cases hi
     |13,hi=>rw[hf.no (j:=13) hf.self (by kernel_rfl)] at hi;cases hi
     |_+14,_=>rfl) ?_
   try simp only[Act.put,zzA,zzB,zzC]
   refine zct (.bool !g) (by rfl) (by rfl) (λf W' h=>⟨h.1,h.2⟩) (λf W' hf h=>by go_simp) ?_
   try simp only[Act.put,zzA,zzB,zzC]
   refine z1u λf W5 hf h=>?_
   rcases h.2 (hf 12 (by decide)) with⟨rfl,hJ5⟩|⟨rfl,hJx5⟩
   ·have HJ5:=hid hJ5;clear hJ5 hf h
    gi_wp2
    go_roundw
    case rel=>exact⟨k+1,by omega,by go_num,HJ5.out⟩
    case measure=>simp[RowKit.intOf];omega
   ·have HJx5:=hid hJx5;clear hJx5 hf h
    gi_wp2
    refine bodyPost_ret (results_none rfl _ _ _) rfl ?_
    exact⟨⟨_,rfl⟩,.inr HJx5.out⟩
  ·obtain rfl:k=N:=by omega
   gi_wp2
   go_end0
   exact⟨⟨_,rfl⟩,.inl hJ.out⟩
end Go.Proofs.YtbjomkfgicffhaaGreatDoor
namespace Go.Proofs.YtbjomkfgicffhaaGreatDoor
open Go.RowKit Go.Shelf Lib Str Limb Geo
attribute [local go_sem] Oper.semAt_some
def txt (l:List Pt):List (List UInt8×List UInt8):=l.map λp=>(numS p.x,numS p.y)
theorem za2 (l:List Pt):(txt l).length=l.length:=by simp[txt]
def cor (l:List Pt) (k:Nat):Pt:=l[k%l.length]?.getD ⟨0,0⟩
theorem zj4 (l:List Pt) (k:Nat) (hk:k<l.length):ptOf (txt l) k=(numS (cor l k).x,numS (cor l k).y):=by
 unfold ptOf txt cor
 rw[List.getElem?_map,Nat.mod_eq_of_lt hk,List.getElem?_eq_getElem hk];rfl
theorem zt4 (l:List Pt) (k:Nat):cor l (k%l.length)=cor l k:=by unfold cor;rw[Nat.mod_mod]
theorem zgj (l:List Pt) (k:Nat) (hk:k<l.length):zk9 (txt l) k=segV (cor l k) (cor l (k+1)):=by
 unfold zk9
 rw[za2,zj4 l k hk,zj4 l _ (Nat.mod_lt _ (by omega)),zt4];rfl
def zea (n i k:Nat):Int:=if k=i+1\/(i=0/\k=n-1) then 1 else 0
def okS2 (l:List Pt) (i k:Nat):Prop:=meet (cor l i) (cor l (i+1)) (cor l k) (cor l (k+1))=zea l.length i k
def zbz (l:List Pt):Prop:=∀i k,i<k->k<l.length->okS2 l i k
structure SimS (w:World) (p:Option Addr) (cap n:Nat) (l:List Pt) (W:World):Prop where
 bel:Below w.heap.size w W
 box:W.cell? ⟨w.heap.size,0,none⟩=some (.slice p n cap)
 res:W.cell? ⟨w.heap.size+1,0,none⟩=some (.bool false)
 fr:W.frozen? ⟨w.heap.size+1,0,none⟩=false
 cbx:W.cell? ⟨w.heap.size+1+1,0,none⟩=some (.slice p n cap)
 pts:∀i,i<n->∃b off,p=some ⟨b,off,none⟩/\W.cell? ⟨b,off+i*2,none⟩=some (St (ptOf (txt l) i).1)/\W.cell? ⟨b,off+i*2+1,none⟩=some (St (ptOf (txt l) i).2)
theorem SimS.keep {w:World} {p:Option Addr} {cap n:Nat} {l:List Pt} {W W':World} (h:SimS w p cap n l W) (hc:CellsKept W W') (hb:Below w.heap.size W W'):SimS w p cap n l W':=
 ⟨h.bel.trans hb,hc.cell h.box,hc.cell h.res,hc.frozen h.res h.fr,hc.cell h.cbx,λi hi=>let ⟨b,off,e,h1,h2⟩:=h.pts i hi;⟨b,off,e,hc.cell h1,hc.cell h2⟩⟩
theorem SimS.ptsAt {w:World} {p:Option Addr} {cap n:Nat} {l:List Pt} {W:World} (hn:n=l.length) (h:SimS w p cap n l W) {B:Nat} (hB:W.cell? ⟨B,0,none⟩=some (.slice p n cap)):zls B p cap (txt l) W:=by
 refine⟨by rw[za2,<-hn];exact hB,λi hi=>h.pts i (by rw[za2] at hi;omega)⟩
structure SegAt (b:Nat) (x y:Pt) (W:World):Prop where
 h0:W.cell? ⟨b,0,none⟩=some (St (numS x.x))
 h1:W.cell? ⟨b,1,none⟩=some (St (numS x.y))
 h2:W.cell? ⟨b,2,none⟩=some (St (numS y.x))
 h3:W.cell? ⟨b,3,none⟩=some (St (numS y.y))
theorem SegAt.new (W:World) (x y:Pt) (t:TypeId):SegAt W.heap.size x y (W.alloc (.cells #[St (numS x.x),St (numS x.y),St (numS y.x),St (numS y.y)] t)):=by
 have A:=World.alloc_heap_new W (.cells #[St (numS x.x),St (numS x.y),St (numS y.x),St (numS y.y)] t)
 constructor<;>(rw[Go.Joins.cell_of_block A];rfl)
theorem SegAt.keep {b:Nat} {x y:Pt} {W W':World} (h:SegAt b x y W) (hc:CellsKept W W'):SegAt b x y W':=⟨hc.cell h.h0,hc.cell h.h1,hc.cell h.h2,hc.cell h.h3⟩
theorem zs9 (p:Option Addr) (cap:Nat) (l:List Pt) (h3:3<=l.length) (hlen:l.length<=4096)
 (M:Hid (∀i k,i<l.length->k<l.length->∀W:World,Wd W->Calls Tryz.prog 43 #[segV (cor l i) (cor l (i+1)),segV (cor l k) (cor l (k+1))] W λe w'=>e=.returned (.int .i64 (meet (cor l i) (cor l (i+1)) (cor l k) (cor l (k+1))))/\Below W.heap.size W w'))
 (w:World) (HW:Hid (Wd w))
 (HP:Hid (∀i,i<l.length->∃b off,p=some ⟨b,off,none⟩/\w.cell? ⟨b,off+i*2,none⟩=some (St (ptOf (txt l) i).1)/\w.cell? ⟨b,off+i*2+1,none⟩=some (St (ptOf (txt l) i).2))):
 Calls Tryz.prog 68 #[.slice p l.length cap] w λe w'=>∃b,e=.returned (.bool b)/\(b=true↔zbz l)/\Below w.heap.size w w':=by
 refine(callsIn_wide (n:=5)).1 ?_
 refine callsIn_of_wp_marks Tryz.func68 rfl trivial ?_ rfl
 simp only[Tryz.ntmps68,List.size_toArray,List.length_cons,List.length_nil,Nat.reduceAdd,Nat.reduceSub,Array.replicate_succ,Array.replicate_zero,List.push_toArray,List.append_toArray,List.nil_append,List.cons_append]
 obtain⟨n,hn⟩:∃n,n=l.length:=⟨_,rfl⟩
 have hS0:SimS w p cap n l (((w.alloc (.cells #[.slice p n cap] 26)).alloc (.cells #[.bool false] 4)).alloc (.cells #[.slice p n cap] 26)):=by
  have b1:=Boxed.new w 26 (.slice p n cap)
  have b2:=Boxed.new (w.alloc (.cells #[.slice p n cap] 26)) 4 (.bool false)
  have b3:=Boxed.new ((w.alloc (.cells #[.slice p n cap] 26)).alloc (.cells #[.bool false] 4)) 26 (.slice p n cap)
  have b12:=(b1.alloc (.cells #[.bool false] 4)).alloc (.cells #[.slice p n cap] 26)
  have b22:=b2.alloc (.cells #[.slice p n cap] 26)
  simp only[World.size_alloc] at b3 b22
  have hbel:Below w.heap.size w (((w.alloc (.cells #[.slice p n cap] 26)).alloc (.cells #[.bool false] 4)).alloc (.cells #[.slice p n cap] 26)):=(((Below.refl _ w).alloc (Nat.le_refl _) _).alloc (by simp) _).alloc (by simp;omega) _
  refine⟨hbel,b12.cell,b22.cell,b22.frozen,b3.cell,λi hi=>?_⟩
  obtain⟨b,off,e,h1,h2⟩:=HP.out i (by omega)
  exact⟨b,off,e,zai hbel h1,zai hbel h2⟩
 rw[<-hn] at h3 hlen⊢
 have HN:=hid hn;clear hn
 have HS0:=hid hS0;clear hS0 HP
 gi_wp2_with (refine⟨trivial,?_⟩;gi_at_call 34;refine(callsIn_wide.2 (zfr _ _ _ _ _ rfl)).mono ?_;rintro e w' ⟨rfl,rfl⟩)
 have hS0:=HS0.out;clear HS0
 generalize ((w.alloc (.cells #[.slice p n cap] 26)).alloc (.cells #[.bool false] 4)).alloc (.cells #[.slice p n cap] 26)=W0 at*
 have HS:=hid hS0.bel.size
 have hseq:=zgi 4 (by omega) (w.heap.size+1+1) (txt l) (by rw[za2,<-HN.out];omega) (λW=>SimS w p cap n l W) p cap (λW h=>h.ptsAt HN.out h.cbx)
 rw[za2,<-HN.out] at hseq
 refine zfq (n:=5) (B:=w.heap.size) rfl (by omega) rfl trivial (enters_of Tryz.func69 (by kernel_rfl) rfl) hseq (λk args h=>by subst h;rfl) hS0.bel.size
  (λk W=>SimS w p cap n l W/\∀i j,i<k->i<j->j<n->okS2 l i j)
  (λc _ W=>c=.ret/\Below w.heap.size w W/\W.cell? ⟨w.heap.size+1,0,none⟩=some (.bool false)/\¬zbz l)
  (λk W W' h hc hb=>⟨h.1.keep hc hb,h.2⟩) (λc k W W' h hc hb=>⟨h.1,h.2.1.trans hb,hc.cell h.2.2.1,h.2.2.2⟩) (λk W h=>h.1) ⟨hS0,λi j h=>by omega⟩
  (λk _ a' W=>∃bi bs,a'={tmps:= #[Value.slice p n cap,Value.pointer (some {block:=w.heap.size,off:=0}),Value.pointer (some {block:=w.heap.size+1,off:=0}),.pointer (some ⟨bi,0,none⟩),.pointer (some ⟨bs,0,none⟩),undef,undef,undef,Value.slice p n cap,
    Value.func (Fn.func 69) #[] #[Value.pointer (some {block:=w.heap.size+1+1,off:=0})],I k,segV (cor l k) (cor l (k+1)),undef,undef,undef,undef,undef,undef,undef,undef,undef,undef,undef,undef,undef,undef,undef,undef,undef,undef,undef,undef,undef,undef,undef,undef,undef,undef,undef],defers:=[]}/\W.cell? ⟨bi,0,none⟩=some (I k)/\SegAt bs (cor l k) (cor l (k+1)) W)
  (λk _ a' W W' h hc hb=>let ⟨bi,bs,e,h1,h2⟩:=h;⟨bi,bs,e,hc.cell h1,h2.keep hc⟩) ?assign ?body ?done ?stop
 case assign=>
  rintro lp k args W K hlp hrec ⟨hS,hP⟩ hk rfl hK
  rw[zgj l k (by rw[<-HN.out];exact hk)]
  have HK:=hid hK;clear hK
  unfold segV
  gi_wp2
  have hb1:Below W.heap.size W (W.alloc (.cells #[I k] 3)):=(Below.refl _ W).alloc (Nat.le_refl _) _
  have hb2:Below W.heap.size W ((W.alloc (.cells #[I k] 3)).alloc (.cells #[St (numS (cor l k).x),St (numS (cor l k).y),St (numS (cor l (k+1)).x),St (numS (cor l (k+1)).y)] 71)):=hb1.alloc (by simp) _
  have hseg:=SegAt.new (W.alloc (.cells #[I k] 3)) (cor l k) (cor l (k+1)) 71
  rw[World.size_alloc] at hseg
  refine HK.out _ _ ((za0 hb2).from _) ⟨hS.keep (zac hb2) (hb2.mono hS.bel.size),hP⟩ ⟨W.heap.size,W.heap.size+1,rfl,?_,hseg⟩
  exact(Boxed.alloc (Boxed.new W 3 (I k)) _).cell
 case body=>
  rintro lp k args a' W hlp ⟨r,hr⟩ ⟨hS,hP⟩ hk rfl ⟨bi,bs,rfl,hi,hseg⟩
  have hbox:=hS.box
  obtain⟨W2,hW2⟩:∃W2,W2=W.alloc (.cells #[.slice p n cap] 26):=⟨_,rfl⟩
  have hb2:Below W.heap.size W W2:=by rw[hW2];exact(Below.refl _ W).alloc (Nat.le_refl _) _
  have hcb:W2.cell? ⟨W.heap.size,0,none⟩=some (.slice p n cap):=by rw[hW2];exact(Boxed.new W 26 (.slice p n cap)).cell
  have hr2:W2.heap[lp]? =some (.loop r):=(hb2.block _ (Array.getElem?_eq_some_iff.1 hr).1).trans hr
  have H0:=hid (⟨hS,hP⟩:SimS w p cap n l W/\∀i j,i<k->i<j->j<n->okS2 l i j)
  have HC:=hid (⟨hi,hseg,hb2,hcb⟩:W.cell? ⟨bi,0,none⟩=some (I k)/\SegAt bs (cor l k) (cor l (k+1)) W/\Below W.heap.size W W2/\W2.cell? ⟨W.heap.size,0,none⟩=some (.slice p n cap))
  have HW2:=hid hW2;clear hW2 hS hP hi hseg hb2 hcb hr hseq hS0
  gi_wp2_with (refine⟨trivial,?_⟩;gi_at_call 34;refine(CallsIn.inRound lp (callsIn_wide.2 (zfr _ _ _ _ _ rfl))).mono ?_;rintro e w' ⟨rfl,rfl⟩)
  rw[<-HW2.out]
  obtain⟨hi,hseg,hb2,hcb⟩:=HC.out
  obtain⟨hS,hP⟩:=H0.out
  have hseq:=zgi 2 (by omega) W.heap.size (txt l) (by rw[za2,<-HN.out];omega) (λW'=>SimS w p cap n l W'/\W'.cell? ⟨W.heap.size,0,none⟩=some (.slice p n cap)) p cap (λW h=>h.1.ptsAt HN.out h.2)
  rw[za2,<-HN.out] at hseq
  refine zs7 (l₀:=lp) (r₀:=r) (n:=3) (B:=W.heap.size) rfl hr2 (by omega) rfl trivial (enters_of Tryz.func69 (by kernel_rfl) rfl) (hseq.inRound lp) (λk args h=>by subst h;rfl) hb2.size
   (λj W'=>Below W.heap.size W W'/\W'.cell? ⟨W.heap.size,0,none⟩=some (.slice p n cap)/\∀j',k<j'->j'<j->okS2 l k j')
   (λc _ W'=>c=.ret/\KeepsFrom W0.heap.size W W'/\Below w.heap.size w W'/\W'.cell? ⟨w.heap.size+1,0,none⟩=some (.bool false)/\¬zbz l)
   (λj X Y h hc hb=>⟨h.1.trans hb,hc.cell h.2.1,h.2.2⟩)
   (λc j X Y h hc hb=>⟨h.1,⟨Nat.le_trans h.2.1.size hb.size,λq o hq h0 ho=>(hb.block _ (Array.getElem?_eq_some_iff.1 h0).1).trans (h.2.1.same q o hq h0 ho)⟩,h.2.2.1.trans (hb.mono hS.bel.size),hc.cell h.2.2.2.1,h.2.2.2.2⟩)
   (λj W' h=>⟨hS.keep (zac h.1) (h.1.mono hS.bel.size),h.2.1⟩) ⟨hb2,hcb,λj' h1 h2=>by omega⟩
   (λj _ a' W'=>∃bt,a'={tmps:= #[Value.slice p n cap,Value.pointer (some {block:=w.heap.size,off:=0}),Value.pointer (some {block:=w.heap.size+1,off:=0}),.pointer (some ⟨bi,0,none⟩),.pointer (some ⟨bs,0,none⟩),I j,.pointer (some ⟨bt,0,none⟩),undef,Value.slice p n cap,Value.func (Fn.func 69) #[] #[Value.pointer (some {block:=w.heap.size+1+1,off:=0})],I k,segV (cor l k) (cor l (k+1)),Value.slice p n cap,Value.func (Fn.func 69) #[] #[Value.pointer (some {block:=W.heap.size,off:=0})],I j,segV (cor l j) (cor l (j+1)),undef,undef,undef,undef,undef,undef,undef,undef,undef,undef,undef,undef,undef,undef,undef,undef,undef,undef,undef,undef,undef,undef,undef],defers:=[]}/\SegAt bt (cor l j) (cor l (j+1)) W')
   (λj _ a' X Y h hc hb=>let ⟨bt,e,h1⟩:=h;⟨bt,e,h1.keep hc⟩) ?iassign ?ibody ?idone ?istop
  case iassign=>
   rintro lq j args W' K hlq hrec ⟨hB',hcb',hP'⟩ hj rfl hK
   rw[zgj l j (by rw[<-HN.out];exact hj)]
   have HK:=hid hK;clear hK
   unfold segV
   gi_wp2
   have hb1:Below W'.heap.size W' (W'.alloc (.cells #[St (numS (cor l j).x),St (numS (cor l j).y),St (numS (cor l (j+1)).x),St (numS (cor l (j+1)).y)] 71)):=(Below.refl _ W').alloc (Nat.le_refl _) _
   refine HK.out _ _ ((za0 hb1).from _) ⟨hB'.trans (hb1.mono hB'.size),zai hb1 hcb',hP'⟩ ⟨W'.heap.size,rfl,SegAt.new W' (cor l j) (cor l (j+1)) 71⟩
  case ibody=>
   rintro lq j args a' W' hlq ⟨r',hr'⟩ ⟨hB',hcb',hP'⟩ hj rfl ⟨bt,rfl,hseg'⟩
   have hi':=zai hB' hi
   have hS':=hS.keep (zac hB') (hB'.mono hS.bel.size)
   have hbox':=hS'.box
   have hres:=hS'.res
   have hfr:=hS'.fr
   obtain⟨g0,g1,g2,g3⟩:=hseg.keep (zac hB')
   obtain⟨k0,k1,k2,k3⟩:=hseg'
   have hwd:=HW.out.below hS'.bel
   have HS2:=hid (⟨hB',hcb',hP',hS'⟩:Below W.heap.size W W'/\W'.cell? ⟨W.heap.size,0,none⟩=some (.slice p n cap)/\(∀j',k<j'->j'<j->okS2 l k j')/\SimS w p cap n l W')
   have hM:=M.out k j (by rw[<-HN.out];exact hk) (by rw[<-HN.out];exact hj) W' hwd
   obtain⟨m,hm⟩:∃m,m=meet (cor l k) (cor l (k+1)) (cor l j) (cor l (j+1)):=⟨_,rfl⟩
   rw[<-hm] at hM
   unfold segV at hM⊢
   have HM:=hid hM
   have HMM:=hid hm
   have hwk:IntKind.i64.wrap ((k:Int)+1)=(k:Int)+1:=IntWalk.i64_in _ ⟨by omega,by omega⟩
   have hwn:IntKind.i64.wrap ((n:Int)-1)=(n:Int)-1:=IntWalk.i64_in _ ⟨by omega,by omega⟩
   clear hM hm hB' hcb' hP' hS' hi hseg hb2 hcb hS hP hseq hbox hwd HW2 H0 hr2 hr'
   by_cases hle:j<=k
   ·have e1:decide ((j:Int)<=(k:Int))=true:=decide_eq_true (by omega)
    gi_wp2
    obtain⟨hB',hcb',hP',hS'⟩:=HS2.out
    exact⟨KeepsFrom.refl _ _,hB',hcb',λj' h1 h2=>hP' j' h1 (by omega)⟩
   ·have e1:decide ((j:Int)<=(k:Int))=false:=decide_eq_false (by omega)
    have hcase:(zea n k j=1/\((((j:Int)==(k:Int)+1)=true)\/(((j:Int)==(k:Int)+1)=false/\((k:Int)==0)=true/\((j:Int)==(n:Int)-1)=true)))\/
     (zea n k j=0/\((((j:Int)==(k:Int)+1)=false/\((k:Int)==0)=true/\((j:Int)==(n:Int)-1)=false)\/(((j:Int)==(k:Int)+1)=false/\((k:Int)==0)=false))):=by
     unfold zea
     simp only[beq_iff_eq,beq_eq_false_iff_ne]
     by_cases h1:j=k+1
     ·left;exact⟨if_pos (.inl h1),.inl (by omega)⟩
     ·by_cases h2:k=0
      ·by_cases h3:j=n-1
       ·left;exact⟨if_pos (.inr ⟨h2,h3⟩),.inr ⟨by omega,by omega,by omega⟩⟩
       ·right;exact⟨if_neg (by omega),.inl ⟨by omega,by omega,by omega⟩⟩
      ·right;exact⟨if_neg (by omega),.inr ⟨by omega,by omega⟩⟩
    have hgood:∀W3,Below W'.heap.size W' W3->m=zea n k j->KeepsFrom W2.heap.size W' W3/\Below W.heap.size W W3/\W3.cell? ⟨W.heap.size,0,none⟩=some (.slice p n cap)/\∀j',k<j'->j'<j+1->okS2 l k j':=by
     intro W3 hb3 hmw
     obtain⟨hB',hcb',hP',hS'⟩:=HS2.out
     refine⟨(za0 hb3).from _,hB'.trans (hb3.mono hB'.size),zai hb3 hcb',λj' h1 h2=>?_⟩
     by_cases h:j'=j
     ·subst h;unfold okS2;rw[<-HMM.out,hmw,<-HN.out]
     ·exact hP' j' h1 (by omega)
    have hbad:∀W3,Below W'.heap.size W' W3->m≠zea n k j->KeepsFrom W2.heap.size W' (W3.setCell ⟨w.heap.size+1,0,none⟩ (.bool false))/\Code.ret=Code.ret/\KeepsFrom W0.heap.size W (W3.setCell ⟨w.heap.size+1,0,none⟩ (.bool false))/\Below w.heap.size w (W3.setCell ⟨w.heap.size+1,0,none⟩ (.bool false))/\(W3.setCell ⟨w.heap.size+1,0,none⟩ (.bool false)).cell? ⟨w.heap.size+1,0,none⟩=some (.bool false)/\¬zbz l:=by
     intro W3 hb3 hmw
     obtain⟨hB',hcb',hP',hS'⟩:=HS2.out
     have k3:=KeepsOthers.setCell W3 ⟨w.heap.size+1,0,none⟩ (.bool false)
     have hS3:=hS'.keep (zac hb3) (hb3.mono hS'.bel.size)
     refine⟨((za0 hb3).from _).trans (k3.from _),rfl,(((za0 hB').from _).trans ((za0 hb3).from _)).trans (k3.from _),hS3.bel.setCell (p:=⟨w.heap.size+1,0,none⟩) (by simp) _,World.cell?_setCell_same' _ _ _ (by rw[hS3.res];rfl),λhs=>hmw ?_⟩
     have:=hs k j (by omega) (by rw[<-HN.out];exact hj)
     unfold okS2 at this
     rw[<-HMM.out,<-HN.out] at this;exact this
    have HG:=hid hgood;have HBd:=hid hbad
    clear hgood hbad
    rcases hcase with⟨hwant,f1|⟨f1,f2,f3⟩⟩|⟨hwant,⟨f1,f2,f3⟩|⟨f1,f2⟩⟩
    ·by_cases hmw:m=1
     ·have hmb:(m !=1)=false:=by simpa [hwant] using hmw
      have HWT:=hid hwant;have HMW:=hid hmw;clear hwant hmw
      gi_wp2
      all_goals first|(exact absurd (Option.some.inj ‹some undef=some (Value.bool _)›) (λh=>Value.noConfusion h))|skip
      refine⟨trivial,(CallsIn.inRound lq (CallsIn.inRound lp (callsIn_wide.2 HM.out))).mono ?_⟩
      rintro e W3 ⟨rfl,hb3⟩
      have h9:=HG.out W3 hb3 (by rw[HWT.out];exact HMW.out)
      clear hb3
      gi_wp2
      exact h9
     ·have hmb:(m !=1)=true:=by simpa [hwant] using hmw
      have HWT:=hid hwant;have HMW:=hid hmw;clear hwant hmw
      gi_wp2
      all_goals first|(exact absurd (Option.some.inj ‹some undef=some (Value.bool _)›) (λh=>Value.noConfusion h))|skip
      refine⟨trivial,(CallsIn.inRound lq (CallsIn.inRound lp (callsIn_wide.2 HM.out))).mono ?_⟩
      rintro e W3 ⟨rfl,hb3⟩
      have h9:=HBd.out W3 hb3 (by rw[HWT.out];exact HMW.out)
      have hres3:=zai hb3 hres
      have hfr3:W3.frozen? ⟨w.heap.size+1,0,none⟩=false:=(zac hb3).frozen hres hfr
      have H9:=hid h9
      clear hb3 h9
      gi_wp2
      exact⟨H9.out.1,rfl,H9.out.2.2⟩
    ·by_cases hmw:m=1
     ·have hmb:(m !=1)=false:=by simpa [hwant] using hmw
      have HWT:=hid hwant;have HMW:=hid hmw;clear hwant hmw
      gi_wp2
      all_goals first|(exact absurd (Option.some.inj ‹some undef=some (Value.bool _)›) (λh=>Value.noConfusion h))|skip
      refine⟨trivial,(CallsIn.inRound lq (CallsIn.inRound lp (callsIn_wide.2 HM.out))).mono ?_⟩
      rintro e W3 ⟨rfl,hb3⟩
      have h9:=HG.out W3 hb3 (by rw[HWT.out];exact HMW.out)
      clear hb3
      gi_wp2
      exact h9
     ·have hmb:(m !=1)=true:=by simpa [hwant] using hmw
      have HWT:=hid hwant;have HMW:=hid hmw;clear hwant hmw
      gi_wp2
      all_goals first|(exact absurd (Option.some.inj ‹some undef=some (Value.bool _)›) (λh=>Value.noConfusion h))|skip
      refine⟨trivial,(CallsIn.inRound lq (CallsIn.inRound lp (callsIn_wide.2 HM.out))).mono ?_⟩
      rintro e W3 ⟨rfl,hb3⟩
      have h9:=HBd.out W3 hb3 (by rw[HWT.out];exact HMW.out)
      have hres3:=zai hb3 hres
      have hfr3:W3.frozen? ⟨w.heap.size+1,0,none⟩=false:=(zac hb3).frozen hres hfr
      have H9:=hid h9
      clear hb3 h9
      gi_wp2
      exact⟨H9.out.1,rfl,H9.out.2.2⟩
    ·by_cases hmw:m=0
     ·have hmb:(m !=0)=false:=by simpa [hwant] using hmw
      have HWT:=hid hwant;have HMW:=hid hmw;clear hwant hmw
      gi_wp2
      all_goals first|(exact absurd (Option.some.inj ‹some undef=some (Value.bool _)›) (λh=>Value.noConfusion h))|skip
      refine⟨trivial,(CallsIn.inRound lq (CallsIn.inRound lp (callsIn_wide.2 HM.out))).mono ?_⟩
      rintro e W3 ⟨rfl,hb3⟩
      have h9:=HG.out W3 hb3 (by rw[HWT.out];exact HMW.out)
      clear hb3
      gi_wp2
      exact h9
     ·have hmb:(m !=0)=true:=by simpa [hwant] using hmw
      have HWT:=hid hwant;have HMW:=hid hmw;clear hwant hmw
      gi_wp2
      all_goals first|(exact absurd (Option.some.inj ‹some undef=some (Value.bool _)›) (λh=>Value.noConfusion h))|skip
      refine⟨trivial,(CallsIn.inRound lq (CallsIn.inRound lp (callsIn_wide.2 HM.out))).mono ?_⟩
      rintro e W3 ⟨rfl,hb3⟩
      have h9:=HBd.out W3 hb3 (by rw[HWT.out];exact HMW.out)
      have hres3:=zai hb3 hres
      have hfr3:W3.frozen? ⟨w.heap.size+1,0,none⟩=false:=(zac hb3).frozen hres hfr
      have H9:=hid h9
      clear hb3 h9
      gi_wp2
      exact⟨H9.out.1,rfl,H9.out.2.2⟩
    ·by_cases hmw:m=0
     ·have hmb:(m !=0)=false:=by simpa [hwant] using hmw
      have HWT:=hid hwant;have HMW:=hid hmw;clear hwant hmw
      gi_wp2
      all_goals first|(exact absurd (Option.some.inj ‹some undef=some (Value.bool _)›) (λh=>Value.noConfusion h))|skip
      refine⟨trivial,(CallsIn.inRound lq (CallsIn.inRound lp (callsIn_wide.2 HM.out))).mono ?_⟩
      rintro e W3 ⟨rfl,hb3⟩
      have h9:=HG.out W3 hb3 (by rw[HWT.out];exact HMW.out)
      clear hb3
      gi_wp2
      exact h9
     ·have hmb:(m !=0)=true:=by simpa [hwant] using hmw
      have HWT:=hid hwant;have HMW:=hid hmw;clear hwant hmw
      gi_wp2
      all_goals first|(exact absurd (Option.some.inj ‹some undef=some (Value.bool _)›) (λh=>Value.noConfusion h))|skip
      refine⟨trivial,(CallsIn.inRound lq (CallsIn.inRound lp (callsIn_wide.2 HM.out))).mono ?_⟩
      rintro e W3 ⟨rfl,hb3⟩
      have h9:=HBd.out W3 hb3 (by rw[HWT.out];exact HMW.out)
      have hres3:=zai hb3 hres
      have hfr3:W3.frozen? ⟨w.heap.size+1,0,none⟩=false:=(zac hb3).frozen hres hfr
      have H9:=hid h9
      clear hb3 h9
      gi_wp2
      exact⟨H9.out.1,rfl,H9.out.2.2⟩
  case idone=>
   rintro W' ⟨hB',hcb',hP'⟩
   have HX:=hid (⟨hB',hP'⟩:Below W.heap.size W W'/\∀j',k<j'->j'<n->okS2 l k j')
   clear hB' hP' hcb'
   gi_wp2
   obtain⟨hB',hP'⟩:=HX.out
   obtain⟨hS,hP⟩:=H0.out
   refine⟨(za0 hB').from _,hS.keep (zac hB') (hB'.mono hS.bel.size),λi j h1 h2 h3=>?_⟩
   by_cases h:i=k
   ·subst h;exact hP' j h2 h3
   ·exact hP i j (by omega) h2 h3
  case istop=>
   rintro c j W' ⟨rfl,h⟩
   have HX:=hid h;clear h
   gi_wp2
   exact⟨HX.out.1,rfl,HX.out.2⟩
 case done=>
  rintro D W hD ⟨hS,hP⟩ hK
  have hres:=hS.res;have hfr:=hS.fr
  have HX:=hid (⟨hS,hP⟩:SimS w p cap n l W/\∀i j,i<n->i<j->j<n->okS2 l i j);clear hS hP hseq hS0
  gi_wp2
  have hK':=(KeepsOthers.setCell W ⟨w.heap.size+1,0,none⟩ (.bool true)).same D _ hK rfl
  refine⟨by simp,.inl ⟨_,_,rfl,run_takeDeferred hK',?_⟩⟩
  have hc5:=(zbk hK').cell (World.cell?_setCell_same' W ⟨w.heap.size+1,0,none⟩ (.bool true) (by rw[hres];rfl))
  obtain⟨hS,hP⟩:=HX.out
  refine⟨.bool true,?_,true,rfl,⟨λ_ i k h1 h2=>?_,λ_=>rfl⟩,zby (hS.bel.setCell (p:=⟨w.heap.size+1,0,none⟩) (by simp) _) (by have:=HS.out;omega) hK'⟩
  ·simp[results,Tryz.f68,go_sem,hc5]
  ·have hn:=HN.out;exact hP i k (by omega) h1 (by omega)
 case stop=>
  rintro D c k W hD ⟨rfl,hbel,hres,hno⟩ hK
  have HX:=hid (⟨hbel,hno⟩:Below w.heap.size w W/\¬zbz l);clear hbel hno hseq hS0
  gi_wp2
  refine⟨by simp,.inl ⟨_,_,rfl,run_takeDeferred hK,?_⟩⟩
  have hc5:=(zbk hK).cell hres
  refine⟨.bool false,by simp[results,Tryz.f68,go_sem,hc5],false,rfl,⟨λh=>by simp at h,λh=>absurd h HX.out.2⟩,zby HX.out.1 (by have:=HS.out;omega) hK⟩
def zch (l:List Pt):Prop:=∀i,i<l.length->cor l i≠cor l (i+1)
structure ChkS (w:World) (p:Option Addr) (n:Nat) (l:List Pt) (W:World):Prop where
 bel:Below w.heap.size w W
 res:∃r,W.cell? ⟨w.heap.size,0,none⟩=some (.int .i64 r)
 fr:W.frozen? ⟨w.heap.size,0,none⟩=false
 pts:∀i,i<n->∃b off,p=some ⟨b,off,none⟩/\W.cell? ⟨b,off+i*2,none⟩=some (St (ptOf (txt l) i).1)/\W.cell? ⟨b,off+i*2+1,none⟩=some (St (ptOf (txt l) i).2)
theorem ChkS.keep {w:World} {p:Option Addr} {n:Nat} {l:List Pt} {W W':World} (h:ChkS w p n l W) (hc:CellsKept W W') (hb:Below w.heap.size W W'):ChkS w p n l W':=
 ⟨h.bel.trans hb,let ⟨r,e⟩:=h.res;⟨r,hc.cell e⟩,let ⟨_,e⟩:=h.res;hc.frozen e h.fr,λi hi=>let ⟨b,off,e,h1,h2⟩:=h.pts i hi;⟨b,off,e,hc.cell h1,hc.cell h2⟩⟩
theorem ChkS.ptsAt {w:World} {p:Option Addr} {cap n:Nat} {l:List Pt} {W:World} (hn:n=l.length) (h:ChkS w p n l W) {B:Nat} (hB:W.cell? ⟨B,0,none⟩=some (.slice p n cap)):zls B p cap (txt l) W:=by
 refine⟨by rw[za2,<-hn];exact hB,λi hi=>h.pts i (by rw[za2] at hi;omega)⟩
theorem zu8 (p:Option Addr) (cap:Nat) (l:List Pt) (h3:3<=l.length) (hlen:l.length<=4096)
 (CP:Hid (∀i,i<l.length->∀W:World,Wd W->Calls Tryz.prog 42 #[ptV (cor l i)] W λe w'=>e=.returned (.int .i64 0)/\Below W.heap.size W w'))
 (S:Hid (∀W:World,Wd W->(∀i,i<l.length->∃b off,p=some ⟨b,off,none⟩/\W.cell? ⟨b,off+i*2,none⟩=some (St (ptOf (txt l) i).1)/\W.cell? ⟨b,off+i*2+1,none⟩=some (St (ptOf (txt l) i).2))->
   Calls Tryz.prog 68 #[.slice p l.length cap] W λe w'=>∃b,e=.returned (.bool b)/\(b=true↔zbz l)/\Below W.heap.size W w'))
 (w:World) (HW:Hid (Wd w))
 (HP:Hid (∀i,i<l.length->∃b off,p=some ⟨b,off,none⟩/\w.cell? ⟨b,off+i*2,none⟩=some (St (ptOf (txt l) i).1)/\w.cell? ⟨b,off+i*2+1,none⟩=some (St (ptOf (txt l) i).2))):
 Calls Tryz.prog 33 #[.slice p l.length cap] w λe w'=>∃r:Int,e=.returned (.int .i64 r)/\((¬zch l/\r=12)\/(zch l/\¬zbz l/\r=15)\/(zch l/\zbz l/\r=0))/\Below w.heap.size w w':=by
 refine(callsIn_wide (n:=3)).1 ?_
 refine callsIn_of_wp_marks Tryz.func33 rfl trivial ?_ rfl
 simp only[Tryz.ntmps33,List.size_toArray,List.length_cons,List.length_nil,Nat.reduceAdd,Nat.reduceSub,Array.replicate_succ,Array.replicate_zero,List.push_toArray,List.append_toArray,List.nil_append,List.cons_append]
 obtain⟨n,hn⟩:∃n,n=l.length:=⟨_,rfl⟩
 have hS0:ChkS w p n l (w.alloc (.cells #[.int .i64 0] 28)):=by
  have b1:=Boxed.new w 28 (.int .i64 0)
  have hbel:Below w.heap.size w (w.alloc (.cells #[.int .i64 0] 28)):=(Below.refl _ w).alloc (Nat.le_refl _) _
  refine⟨hbel,⟨_,b1.cell⟩,b1.frozen,λi hi=>?_⟩
  obtain⟨b,off,e,h1,h2⟩:=HP.out i (by omega)
  exact⟨b,off,e,zai hbel h1,zai hbel h2⟩
 rw[<-hn] at h3 hlen⊢
 have HN:=hid hn;clear hn
 have HS0:=hid hS0;clear hS0 HP
 have hn1:decide ((4096:Int)<(n:Int))=false:=decide_eq_false (by omega)
 have hn2:decide ((n:Int)<3)=false:=decide_eq_false (by omega)
 gi_wp2
 gi_loopw [18] (λi wr=>∃(k:Nat),k<=n/\i=.int .i64 (k:Int)/\Hid (ChkS w p n l wr))
  (λi _=>n-(RowKit.intOf i).toNat)
 case atStart=>exact⟨0,Nat.zero_le _,rfl,HS0.out⟩
 case round=>
  clear hn1 hn2
  obtain⟨k,hk,rfl,hS⟩:=hrel
  by_cases hlt:k<n
  ·obtain⟨b,off,rfl,c0,c1⟩:=hS.out.pts k hlt
   have hb1:Below wr.heap.size wr (wr.alloc (.cells #[St (ptOf (txt l) k).1,St (ptOf (txt l) k).2] 24)):=(Below.refl _ wr).alloc (Nat.le_refl _) _
   have hS1:=hid (hS.out.keep (zac hb1) (hb1.mono hS.out.bel.size))
   have hcp:=CP.out k (by rw[<-HN.out];exact hlt) _ (HW.out.below hS1.out.bel)
   have ep:ptV (cor l k)=.agg #[St (ptOf (txt l) k).1,St (ptOf (txt l) k).2]:=by rw[zj4 l k (by rw[<-HN.out];exact hlt)];rfl
   rw[ep] at hcp
   have HCP:=hid hcp
   clear hcp ep hb1
   generalize (ptOf (txt l) k).1=x at*
   generalize (ptOf (txt l) k).2=y at*
   gi_wp2
   refine⟨trivial,(callsIn_wide.2 HCP.out).mono ?_⟩
   rintro e W2 ⟨rfl,hb2⟩
   have hS2:=hid (hS1.out.keep (zac hb2) (hb2.mono hS1.out.bel.size))
   clear hb2 HCP hS1 HS0
   gi_wp2
   go_roundw
   case rel=>exact⟨k+1,by omega,by go_num,hS2⟩
   case measure=>simp[RowKit.intOf];omega
  ·obtain rfl:k=n:=by omega
   clear HS0
   gi_wp2_with (refine⟨trivial,?_⟩;gi_at_call 34;refine(callsIn_wide.2 (zfr _ _ _ _ _ rfl)).mono ?_;rintro e w' ⟨rfl,rfl⟩)
   obtain⟨W1,hW1⟩:∃W1,W1=wr.alloc (.cells #[.slice p k cap] 26):=⟨_,rfl⟩
   have hb1:Below wr.heap.size wr W1:=by rw[hW1];exact(Below.refl _ wr).alloc (Nat.le_refl _) _
   have hcb:W1.cell? ⟨wr.heap.size,0,none⟩=some (.slice p k cap):=by rw[hW1];exact(Boxed.new wr 26 (.slice p k cap)).cell
   have hS1:=hS.out.keep (zac hb1) (hb1.mono hS.out.bel.size)
   rw[<-hW1]
   clear hW1 hS
   have HS1:=hid hS1.bel.size
   have hseq:=zgi 2 (by omega) wr.heap.size (txt l) (by rw[za2,<-HN.out];omega) (λW=>ChkS w p k l W/\W.cell? ⟨wr.heap.size,0,none⟩=some (.slice p k cap)) p cap (λW h=>h.1.ptsAt HN.out h.2)
   rw[za2,<-HN.out] at hseq
   refine zfq (n:=3) (B:=w.heap.size) rfl (by omega) rfl trivial (enters_of Tryz.func69 (by kernel_rfl) rfl) hseq (λk args h=>by subst h;rfl) hS1.bel.size
    (λj W=>ChkS w p k l W/\W.cell? ⟨wr.heap.size,0,none⟩=some (.slice p k cap)/\∀i,i<j->cor l i≠cor l (i+1))
    (λc _ W=>c=.ret/\Below w.heap.size w W/\W.cell? ⟨w.heap.size,0,none⟩=some (.int .i64 12)/\¬zch l)
    (λj X Y h hc hb=>⟨h.1.keep hc hb,hc.cell h.2.1,h.2.2⟩) (λc j X Y h hc hb=>⟨h.1,h.2.1.trans hb,hc.cell h.2.2.1,h.2.2.2⟩) (λj W h=>⟨h.1,h.2.1⟩) ⟨hS1,hcb,λi h=>by omega⟩
    (λj _ a' W=>∃bs,a'={tmps:= #[Value.slice p k cap,undef,Value.pointer (some {block:=w.heap.size,off:=0}),undef,u4,u5,undef,.pointer (some ⟨bs,0,none⟩),Value.bool false,Value.slice p k cap,Value.int IntKind.i64 ↑k,Value.bool false,Value.bool false,Value.slice p k cap,Value.int IntKind.i64 ↑k,Value.bool false,Value.slice p k cap,Value.int IntKind.i64 ↑k,Value.int IntKind.i64 ↑k,Value.bool false,u20,u21,u22,u23,u24,u25,u26,u27,Value.slice p k cap,Value.func (Fn.func 69) #[] #[Value.pointer (some {block:=wr.heap.size,off:=0})],I j,segV (cor l j) (cor l (j+1)),undef,undef,undef,undef,undef,undef,undef,undef],defers:=[]}/\SegAt bs (cor l j) (cor l (j+1)) W)
    (λj _ a' X Y h hc hb=>let ⟨bs,e,h2⟩:=h;⟨bs,e,h2.keep hc⟩) ?assign ?body ?done ?stop
   case assign=>
    rintro lp j args W K hlp hrec ⟨hS,hcb,hP⟩ hj rfl hK
    rw[zgj l j (by rw[<-HN.out];exact hj)]
    have HK:=hid hK;clear hK
    unfold segV
    gi_wp2
    have hb1:Below W.heap.size W (W.alloc (.cells #[St (numS (cor l j).x),St (numS (cor l j).y),St (numS (cor l (j+1)).x),St (numS (cor l (j+1)).y)] 71)):=(Below.refl _ W).alloc (Nat.le_refl _) _
    exact HK.out _ _ ((za0 hb1).from _) ⟨hS.keep (zac hb1) (hb1.mono hS.bel.size),zai hb1 hcb,hP⟩ ⟨W.heap.size,rfl,SegAt.new W (cor l j) (cor l (j+1)) 71⟩
   case body=>
    rintro lp j args a' W hlp ⟨r,hr⟩ ⟨hS,hcb,hP⟩ hj rfl ⟨bs,rfl,hseg⟩
    obtain⟨g0,g1,g2,g3⟩:=hseg
    obtain⟨r0,hres⟩:=hS.res
    have hfr:=hS.fr
    have H0:=hid (⟨hS,hcb,hP⟩:ChkS w p k l W/\W.cell? ⟨wr.heap.size,0,none⟩=some (.slice p k cap)/\∀i,i<j->cor l i≠cor l (i+1))
    clear hS hcb hP hseq hS1 hr
    unfold segV
    have hgood:cor l j≠cor l (j+1)->KeepsFrom W1.heap.size W W/\ChkS w p k l W/\W.cell? ⟨wr.heap.size,0,none⟩=some (.slice p k cap)/\∀i,i<j+1->cor l i≠cor l (i+1):=λhne=>by
     obtain⟨hS,hcb,hP⟩:=H0.out
     refine⟨KeepsFrom.refl _ _,hS,hcb,λi hi=>?_⟩
     by_cases h:i=j
     ·subst h;exact hne
     ·exact hP i (by omega)
    have HG:=hid hgood;clear hgood
    by_cases hx:numS (cor l j).x=numS (cor l (j+1)).x
    ·by_cases hy:numS (cor l j).y=numS (cor l (j+1)).y
     ·have HE:=hid (⟨hx,hy⟩:numS (cor l j).x=numS (cor l (j+1)).x/\numS (cor l j).y=numS (cor l (j+1)).y)
      gi_wp2
      obtain⟨hS,hcb,hP⟩:=H0.out
      refine⟨(KeepsOthers.setCell _ _ _).from _,rfl,hS.bel.setCell (p:=⟨w.heap.size,0,none⟩) (by simp) _,World.cell?_setCell_same' _ _ _ (by rw[hres];rfl),λhs=>hs j (by rw[<-HN.out];exact hj) ?_⟩
      have h1:=zh0 HE.out.1;have h2:=zh0 HE.out.2
      revert h1 h2
      generalize cor l j=a;generalize cor l (j+1)=b
      intro h1 h2
      cases a;cases b;simp at h1 h2;rw[h1,h2]
     ·have HE:=hid hy
      gi_wp2
      exact HG.out λh=>HE.out (by rw[h])
    ·have HE:=hid hx
     gi_wp2
     exact HG.out λh=>HE.out (by rw[h])
   case done=>
    rintro D W hD ⟨hS,hcb,hP⟩ hK
    have hs:=S.out W (HW.out.below hS.bel) (λi hi=>hS.pts i (by rw[HN.out];exact hi))
    rw[<-HN.out] at hs
    have HSm:=hid hs
    have HX:=hid (⟨hS,hP,hK⟩:ChkS w p k l W/\(∀i,i<k->cor l i≠cor l (i+1))/\W.heap[D]? =some (.deferred (some [])));clear hS hP hseq hS1 hs hK
    gi_wp2
    refine⟨trivial,(callsIn_wide.2 HSm.out).mono ?_⟩
    rintro e W3 ⟨b,rfl,hb,hb3⟩
    obtain⟨hS,hP,hK⟩:=HX.out
    have hS3:=hS.keep (zac hb3) (hb3.mono hS.bel.size)
    have hK3:W3.heap[D]? =some (.deferred (some [])):=(hb3.block _ (Array.getElem?_eq_some_iff.1 hK).1).trans hK
    have hside:zch l:=λi hi=>hP i (by rw[HN.out];exact hi)
    obtain⟨r3,hres⟩:=hS3.res
    have hfr:=hS3.fr
    have H3:=hid (⟨hS3.bel,hK3,hside,hb⟩:Below w.heap.size w W3/\W3.heap[D]? =some (.deferred (some []))/\zch l/\(b=true↔zbz l))
    clear HX hS hP hK hS3 hK3 hside hb hb3 HSm
    cases b
    ·gi_wp2
     obtain⟨hbel,hK3,hside,hb⟩:=H3.out
     have hK':=(KeepsOthers.setCell W3 ⟨w.heap.size,0,none⟩ (.int .i64 15)).same D _ hK3 rfl
     refine⟨by simp,.inl ⟨_,_,rfl,run_takeDeferred hK',?_⟩⟩
     have hc5:=(zbk hK').cell (World.cell?_setCell_same' W3 ⟨w.heap.size,0,none⟩ (.int .i64 15) (by rw[hres];rfl))
     refine⟨.int .i64 15,?_,15,rfl,.inr (.inl ⟨hside,λh=>(by have:=hb.2 h;simp at this),rfl⟩),zby (hbel.setCell (p:=⟨w.heap.size,0,none⟩) (by simp) _) (by have:=HS1.out;omega) hK'⟩
     simp[results,Tryz.f33,go_sem,hc5]
    ·gi_wp2
     obtain⟨hbel,hK3,hside,hb⟩:=H3.out
     have hK':=(KeepsOthers.setCell W3 ⟨w.heap.size,0,none⟩ (.int .i64 0)).same D _ hK3 rfl
     refine⟨by simp,.inl ⟨_,_,rfl,run_takeDeferred hK',?_⟩⟩
     have hc5:=(zbk hK').cell (World.cell?_setCell_same' W3 ⟨w.heap.size,0,none⟩ (.int .i64 0) (by rw[hres];rfl))
     refine⟨.int .i64 0,?_,0,rfl,.inr (.inr ⟨hside,hb.1 (by trivial),rfl⟩),zby (hbel.setCell (p:=⟨w.heap.size,0,none⟩) (by simp) _) (by have:=HS1.out;omega) hK'⟩
     simp[results,Tryz.f33,go_sem,hc5]
   case stop=>
    rintro D c j W hD ⟨rfl,hbel,hres,hno⟩ hK
    have HX:=hid (⟨hbel,hno⟩:Below w.heap.size w W/\¬zch l);clear hbel hno hseq hS1
    gi_wp2
    refine⟨by simp,.inl ⟨_,_,rfl,run_takeDeferred hK,?_⟩⟩
    have hc5:=(zbk hK).cell hres
    refine⟨.int .i64 12,by simp[results,Tryz.f33,go_sem,hc5],12,rfl,.inl ⟨HX.out.2,rfl⟩,zby HX.out.1 (by have:=HS1.out;omega) hK⟩
def RowPts (p:Option Addr) (l:List Pt) (W:World):Prop:=
 ∀i,i<l.length->∃b off,p=some ⟨b,off,none⟩/\W.cell? ⟨b,off+i*2,none⟩=some (St (ptOf (txt l) i).1)/\W.cell? ⟨b,off+i*2+1,none⟩=some (St (ptOf (txt l) i).2)
theorem RowPts.keep {p:Option Addr} {l:List Pt} {W W':World} (h:RowPts p l W) (hc:CellsKept W W'):RowPts p l W':=λi hi=>let ⟨b,off,e,h1,h2⟩:=h i hi;⟨b,off,e,hc.cell h1,hc.cell h2⟩
theorem zw6 (p:Option Addr) (cap:Nat) (l:List Pt) (h3:3<=l.length) (hlen:l.length<=4096) (hz:∀i,szP (cor l i) 36) (w:World) (hw:Wd w) (hp:RowPts p l w):
 Calls Tryz.prog 68 #[.slice p l.length cap] w λe w'=>∃b,e=.returned (.bool b)/\(b=true↔zbz l)/\Below w.heap.size w w':=
 zs9 p cap l h3 hlen (hid λi k _ _ W hW=>zol _ _ _ _ 36 (by omega) (by omega) (hz _) (hz _) (hz _) (hz _) W hW) w (hid hw) (hid hp)
theorem zu9 (p:Option Addr) (cap:Nat) (l:List Pt) (h3:3<=l.length) (hlen:l.length<=4096) (hz:∀i,szP (cor l i) 36) (w:World) (hw:Wd w) (hp:RowPts p l w):
 Calls Tryz.prog 33 #[.slice p l.length cap] w λe w'=>∃r:Int,e=.returned (.int .i64 r)/\((¬zch l/\r=12)\/(zch l/\¬zbz l/\r=15)\/(zch l/\zbz l/\r=0))/\Below w.heap.size w w':=
 zu8 p cap l h3 hlen (hid λi _ W hW=>zdi _ (hz i) W hW) (hid λW hW hp=>zw6 p cap l h3 hlen hz W hW hp) w (hid hw) (hid hp)
theorem zj5 (p:Option Addr) (cap:Nat) (l:List Pt) (h3:3<=l.length) (hlen:l.length<=4096) (hz:∀i,szP (cor l i) 36) (hs:zch l) (hm:zbz l) (w:World) (hw:Wd w) (hp:RowPts p l w):
 Calls Tryz.prog 33 #[.slice p l.length cap] w λe w'=>e=.returned (.int .i64 0)/\Below w.heap.size w w':=by
 refine(zu9 p cap l h3 hlen hz w hw hp).mono ?_
 rintro e w' ⟨r,rfl,h,hb⟩
 rcases h with⟨h,_⟩|⟨_,h,_⟩|⟨_,_,rfl⟩
 ·exact absurd hs h
 ·exact absurd hm h
 ·exact⟨rfl,hb⟩
end Go.Proofs.YtbjomkfgicffhaaGreatDoor
