/- slices.Grow and slices.Concat, of terms. -/
import Derived.Test.YtccijmidbdapaaaGreatDoorJ16
import Derived.Lib.AppendZerosOnto
import Derived.Laws.AppendOwnNone
set_option maxRecDepth 100000
set_option maxHeartbeats 8000000
open Go renaming World → zA, Calls → zC
open Go.RowKit renaming Below → zB, intOf → zL
open Go.Lib renaming decDigits → zD
open Go.Proofs.Tryz renaming prog → zF
open Go.World renaming alloc_heap_new → zG
open Go.IntWalk renaming i64_in → zI
open Go.Joins renaming cell_of_block → zJ
open Go.RowKit.Below renaming refl → zM
open Nat renaming le_refl → zN, zero_le → zR
open List renaming length_append → zU, getElem?_eq_getElem → yB, append_nil → yH, nil_append → yI
namespace Go.Proofs.YtccijmidbdapaaaGreatDoor
open Go.RowKit Go.Shelf Lib Str Limb
attribute [local go_sem] Oper.semAt_some
theorem zui:∀(l:List (List UInt8×List UInt8)),∀u∈zbj l,u.oneCell'=true
 |[],u,h=>by simp[zbj] at h
 |a::r,u,h=>by
  rcases List.mem_cons.1 h with rfl|h
  ·rfl
  ·rcases List.mem_cons.1 h with rfl|h
   ·rfl
   ·exact zui r u h
theorem zpa {w:zA} {base:Nat} {e:TypeId} {s:Nat} {v:Value} {n:Nat} {xs:List Value} (h:w.ownsRow base e s v n xs):∃q c,v=.slice q n c:=by
 rcases h.2 with⟨rfl,rfl⟩|⟨g,cp,cur,rfl,_⟩
 ·exact⟨none,0,rfl⟩
 ·exact⟨_,cp,rfl⟩
def catT (l1 l2:List (List UInt8×List UInt8)):Nat->List (List UInt8×List UInt8)
 |0=>[]
 |1=>l1
 |_=>l1++l2
theorem z62 (n:Nat) (h1:1<=n) (hn:n<=10000) (w:zA):
 zC zF 137 #[.slice none 0 0,.int .i64 (n:Int)] w λe w'=>∃v,e=.returned v/\w'.ownsRow w.heap.size 58 2 v 0 []/\zB w.heap.size w w':=by
 obtain⟨i0,hi,hz0,hz1,hz2⟩:=info_parts zsc
 have hrz:∀ty,(Builtin.append_ #[37,3] ty #[.slice none 0 0,.int .i64 (n:Int)]).run zF w=
  .ok (.slice (some ⟨w.heap.size,0,none⟩) n (grownCap w n 0 58)) (w.drew.alloc (.cells (#[]++Builtin.zeroCells (Value.agg #[St [],St []]).cells n++Builtin.zeroCells (Value.agg #[St [],St []]).cells (grownCap w n 0 58-n)) 58)):=λty=>by
  have h:=Lib.run_append_grow_zeros w 37 3 ty 58 i0 (.agg #[St [],St []]) .i64 .i64 Tryz.underlying37 Tryz.underlying3 hi hz0 none 0 0 [] (run_firstCells_none w.drew i0.size 0 0 0) n h1 (by omega) (by omega) (by omega) (by rw[hz2];omega) (by rw[hz2];exact growslice_fits (by omega) (by omega))
  simpa using h
 have hGn:n<=grownCap w n 0 58:=grownCap_ge w _ _ _
 have hGm:grownCap w n 0 58<=maxLen:=grownCap_le_maxLen w n 0 58 (by unfold maxLen;omega)
 generalize grownCap w n 0 58=G at*
 have HR:=hid (hrz);clear hrz
 have HG:=hid (⟨hGn,hGm⟩:n<=G/\G<=maxLen)
 have hG63:G<=9223372036854775807:=by unfold maxLen at hGm;omega
 clear hi hz0 hz1 hz2 hGm
 have hn0:¬(n:Int)<0:=by omega
 have hn1:(0:Int)<n:=by omega
 have hw1:IntKind.i64.wrap (n:Int)=n:=zI _ ⟨by omega,by omega⟩
 go_enter Tryz.func137,Tryz.ntmps137
 go_wp2_with (at_builtin;refine Lib.wpList_append_run _ rfl _ _ _ _ rfl _ _ rfl rfl _ _ (HR.out _) ?_)
 go_ret
 refine⟨_,rfl,⟨rfl,.inr ⟨w.heap.size,G,_,rfl,zN _,zG w _,zR _,HG.out.2,?_,by simp⟩⟩,((zM _ w).alloc (zN _) _).drew⟩
 have:=HG.out.1
 rw[Array.size_append,size_zeroCells,size_zeroCells]
 show n*2+(G-n)*2=G*2
 omega
theorem z5g (b g1 o1 c1 g2 o2 c2 n1 n2 N:Nat) (l1 l2:List (List UInt8×List UInt8)) (hN:n1+n2=N) (hN2:N<=4096) (w:zA)
 (GR:Hid (∀W:zA,zC zF 137 #[.slice none 0 0,.int .i64 (N:Int)] W λe w'=>∃v,e=.returned v/\w'.ownsRow W.heap.size 58 2 v 0 []/\zB W.heap.size W w'))
 (hx:l1.length=n1) (hy:l2.length=n2)
 (HX:Hid (∀W:zA,qL w W->∀j u,(zbj l1)[j]? =some u->W.cell? ⟨g1,o1+j,none⟩=some u))
 (HY:Hid (∀W:zA,qL w W->∀j u,(zbj l2)[j]? =some u->W.cell? ⟨g2,o2+j,none⟩=some u))
 (HA:Hid (∀W:zA,qL w W->W.cell? ⟨b,0,none⟩=some (.slice (some ⟨g1,o1,none⟩) n1 c1)/\W.cell? ⟨b,1,none⟩=some (.slice (some ⟨g2,o2,none⟩) n2 c2))):
 zC zF 92 #[.slice (some ⟨b,0,none⟩) 2 2] w λe w'=>∃v,e=.returned v/\w'.ownsRow w.heap.size 58 2 v N (zbj (l1++l2))/\zB w.heap.size w w':=by
 obtain⟨a0,a1⟩:=HA.out w (zM _ _)
 have hw0:IntKind.i64.wrap (0+(n1:Int))=(n1:Int):=by rw[zI _ ⟨by omega,by omega⟩];omega
 have hw1:IntKind.i64.wrap ((n1:Int)+(n2:Int))=(N:Int):=by rw[zI _ ⟨by omega,by omega⟩];omega
 have hn0:¬(n1:Int)<0:=by omega
 have hn1:¬(N:Int)<0:=by omega
 go_enter Tryz.func92,Tryz.ntmps92
 go_wp2_with fail
 go_loopw [11,3] (λi z wr=>∃(k:Nat),k<=2/\i=.int .i64 (k:Int)/\z=.int .i64 (if k=0 then 0 else if k=1 then(n1:Int) else(N:Int))/\Hid (wr=w))
  (λi _ _=>2-(zL i).toNat)
 case atStart=>exact⟨0,zR _,rfl,rfl,hid rfl⟩
 case round=>
  obtain⟨k,hk,rfl,rfl,hB⟩:=hrel
  obtain rfl:=hB.out.symm
  clear hB
  match k,hk with
  |0,_=>
   go_wp2_with fail
   go_roundw
   case rel=>exact⟨1,by omega,by go_num,by simp,hid trivial⟩
   case measure=>simp[zL]
  |1,_=>
   go_wp2_with fail
   go_roundw
   case rel=>exact⟨2,by omega,by go_num,by simp,hid trivial⟩
   case measure=>simp[zL]
  |2,_=>
   go_wp2_with fail
   refine(GR.out w).mono ?_
   rintro e w1 ⟨v,rfl,hown,hb1⟩
   obtain⟨q0,c0,rfl⟩:=zpa hown
   have HO1:=hid hown;have HB1:=hid hb1
   clear hown hb1 GR hw0 hw1 hn0 hn1
   have HX0:=hid (⟨hx,hy,hN⟩:_/\_/\_)
   clear hx hy
   go_wp2_with fail
   go_loopw [27,6] (λi v wr=>∃(k:Nat) (q:Option Addr) (c':Nat),k<=2/\i=.int .i64 (k:Int)/\v=.slice q (catT l1 l2 k).length c'/\Hid (qL w wr)/\Hid (wr.ownsRow w.heap.size 58 2 (.slice q (catT l1 l2 k).length c') (catT l1 l2 k).length (zbj (catT l1 l2 k))))
    (λi _ _=>2-(zL i).toNat)
   case atStart=>exact⟨0,q0,c0,zR _,rfl,rfl,HB1,HO1⟩
   case round=>
    obtain⟨k,q,c',hk,rfl,rfl,hB,hO⟩:=hrel
    clear a0 a1
    obtain⟨a0,a1⟩:=HA.out wr hB.out
    obtain⟨i0,hi,hz0,hz1,hz2⟩:=info_parts zsc
    have HD:=hid (⟨hi,hz0,hz1,hz2⟩:_/\_/\_/\_)
    clear hi hz0 hz1 hz2
    have HN0:=hid (show ∀j u,(zbj l1)[j]? =some u->wr.cell? ((⟨g1,o1,none⟩:Addr).add j)=some u from λj u hu=>by
     have ea:(⟨g1,o1,none⟩:Addr).add j=⟨g1,o1+j,none⟩:=by unfold Addr.add;split<;>simp_all
     rw[ea]
     exact HX.out wr hB.out _ _ hu)
    have HN1:=hid (show ∀j u,(zbj l2)[j]? =some u->wr.cell? ((⟨g2,o2,none⟩:Addr).add j)=some u from λj u hu=>by
     have ea:(⟨g2,o2,none⟩:Addr).add j=⟨g2,o2+j,none⟩:=by unfold Addr.add;split<;>simp_all
     rw[ea]
     exact HY.out wr hB.out _ _ hu)
    have HL:=hid (show(catT l1 l2 k).length<=4096 by
     obtain⟨e1,e2,e3⟩:=HX0.out
     match k,hk with
     |0,_=>exact zR _
     |1,_=>show l1.length<=4096;omega
     |2,_=>show(l1++l2).length<=4096;rw[zU];omega)
    match k,hk with
    |0,_=>
     go_wp2_with (at_builtin;refine wpList_append_own_at _ rfl _ _ 37 rfl w.heap.size 58 i0 (.agg #[St [],St []]) 2 32 Tryz.underlying37 HD.out.1 HD.out.2.1 HD.out.2.2.1 HD.out.2.2.2 rfl (by decide) (.slice q (catT l1 l2 0).length c') (catT l1 l2 0).length (zbj (catT l1 l2 0)) rfl hO.out ⟨g1,o1,none⟩ n1 c1 (zbj l1) rfl (by rw[zn8,HX0.out.1]) HN0.out (zui _) (by have:=HL.out;unfold maxLen;omega) (by have:=HL.out;omega) hB.out.size ?_)
     intro v' w2 hown' hgrow hnil hat
     obtain⟨q',c3,rfl⟩:=zpa hown'
     have HB2:=hid (hB.out.grown hgrow hB.out.size (λg e=>(hO.out.lt g e).1))
     have HO2:=hid (show w2.ownsRow w.heap.size 58 2 (.slice q' (catT l1 l2 1).length c3) (catT l1 l2 1).length (zbj (catT l1 l2 1)) by
      have e:catT l1 l2 1=catT l1 l2 0++l1:=(yI _).symm
      rw[e,zU,HX0.out.1,zjb];exact hown')
     have HE:=hid (show(catT l1 l2 0).length+n1=(catT l1 l2 1).length by
      have e:catT l1 l2 1=catT l1 l2 0++l1:=(yI _).symm
      rw[e,zU,HX0.out.1])
     clear hown' hgrow hnil hat
     go_wp2_with fail
     go_roundw
     case rel=>exact⟨1,q',c3,by omega,by go_num,by rw[<-HE.out],HB2,HO2⟩
     case measure=>simp[zL]
    |1,_=>
     go_wp2_with (at_builtin;refine wpList_append_own_at _ rfl _ _ 37 rfl w.heap.size 58 i0 (.agg #[St [],St []]) 2 32 Tryz.underlying37 HD.out.1 HD.out.2.1 HD.out.2.2.1 HD.out.2.2.2 rfl (by decide) (.slice q (catT l1 l2 1).length c') (catT l1 l2 1).length (zbj (catT l1 l2 1)) rfl hO.out ⟨g2,o2,none⟩ n2 c2 (zbj l2) rfl (by rw[zn8,HX0.out.2.1]) HN1.out (zui _) (by have:=HL.out;unfold maxLen;omega) (by have:=HL.out;omega) hB.out.size ?_)
     intro v' w2 hown' hgrow hnil hat
     obtain⟨q',c3,rfl⟩:=zpa hown'
     have HB2:=hid (hB.out.grown hgrow hB.out.size (λg e=>(hO.out.lt g e).1))
     have HO2:=hid (show w2.ownsRow w.heap.size 58 2 (.slice q' (catT l1 l2 2).length c3) (catT l1 l2 2).length (zbj (catT l1 l2 2)) by
      have e:catT l1 l2 2=catT l1 l2 1++l2:=rfl
      rw[e,zU,HX0.out.2.1,zjb];exact hown')
     have HE:=hid (show(catT l1 l2 1).length+n2=(catT l1 l2 2).length by
      have e:catT l1 l2 2=catT l1 l2 1++l2:=rfl
      rw[e,zU,HX0.out.2.1])
     clear hown' hgrow hnil hat
     go_wp2_with fail
     go_roundw
     case rel=>exact⟨2,q',c3,by omega,by go_num,by rw[<-HE.out],HB2,HO2⟩
     case measure=>simp[zL]
    |2,_=>
     have HE:=hid (show(catT l1 l2 2).length=N by
      obtain⟨e1,e2,e3⟩:=HX0.out
      show(l1++l2).length=N;rw[zU];omega)
     go_wp2_with fail
     go_ret
     refine⟨_,rfl,?_,hB.out⟩
     have:=hO.out
     rw[HE.out] at this
     rw[HE.out]
     exact this
theorem zl9 (w:zA):
 zC zF 137 #[.slice none 0 0,.int .i64 ((0:Nat):Int)] w λe w'=>∃v,e=.returned v/\w'.ownsRow w.heap.size 58 2 v 0 []/\zB w.heap.size w w':=by
 go_enter Tryz.func137,Tryz.ntmps137
 go_wp2_with fail
 go_ret
 exact⟨_,rfl,World.ownsRow_nil _ _ _ _,zM _ _⟩
theorem zns (b g1 o1 c1 n1 N:Nat) (l1 l2:List (List UInt8×List UInt8)) (hN:n1+0=N) (hN2:N<=4096) (w:zA)
 (GR:Hid (∀W:zA,zC zF 137 #[.slice none 0 0,.int .i64 (N:Int)] W λe w'=>∃v,e=.returned v/\w'.ownsRow W.heap.size 58 2 v 0 []/\zB W.heap.size W w'))
 (hx:l1.length=n1) (hy:l2.length=0)
 (HX:Hid (∀W:zA,qL w W->∀j u,(zbj l1)[j]? =some u->W.cell? ⟨g1,o1+j,none⟩=some u))
 (HA:Hid (∀W:zA,qL w W->W.cell? ⟨b,0,none⟩=some (.slice (some ⟨g1,o1,none⟩) n1 c1)/\W.cell? ⟨b,1,none⟩=some (.slice none 0 0))):
 zC zF 92 #[.slice (some ⟨b,0,none⟩) 2 2] w λe w'=>∃v,e=.returned v/\w'.ownsRow w.heap.size 58 2 v N (zbj (l1++l2))/\zB w.heap.size w w':=by
 obtain⟨a0,a1⟩:=HA.out w (zM _ _)
 have hw0:IntKind.i64.wrap (0+(n1:Int))=(n1:Int):=by rw[zI _ ⟨by omega,by omega⟩];omega
 have hw1:IntKind.i64.wrap ((n1:Int)+(0:Int))=(N:Int):=by rw[zI _ ⟨by omega,by omega⟩];omega
 have hn0:¬(n1:Int)<0:=by omega
 have hn1:¬(N:Int)<0:=by omega
 go_enter Tryz.func92,Tryz.ntmps92
 go_wp2_with fail
 go_loopw [11,3] (λi z wr=>∃(k:Nat),k<=2/\i=.int .i64 (k:Int)/\z=.int .i64 (if k=0 then 0 else if k=1 then(n1:Int) else(N:Int))/\Hid (wr=w))
  (λi _ _=>2-(zL i).toNat)
 case atStart=>exact⟨0,zR _,rfl,rfl,hid rfl⟩
 case round=>
  obtain⟨k,hk,rfl,rfl,hB⟩:=hrel
  obtain rfl:=hB.out.symm
  clear hB
  match k,hk with
  |0,_=>
   go_wp2_with fail
   go_roundw
   case rel=>exact⟨1,by omega,by go_num,by simp<;>omega,hid trivial⟩
   case measure=>simp[zL]
  |1,_=>
   go_wp2_with fail
   go_roundw
   case rel=>exact⟨2,by omega,by go_num,by simp<;>omega,hid trivial⟩
   case measure=>simp[zL]
  |2,_=>
   go_wp2_with fail
   refine(GR.out w).mono ?_
   rintro e w1 ⟨v,rfl,hown,hb1⟩
   obtain⟨q0,c0,rfl⟩:=zpa hown
   have HO1:=hid hown;have HB1:=hid hb1
   clear hown hb1 GR hw0 hw1 hn0 hn1
   have HX0:=hid (⟨hx,hy,hN⟩:_/\_/\_)
   clear hx hy
   go_wp2_with fail
   go_loopw [27,6] (λi v wr=>∃(k:Nat) (q:Option Addr) (c':Nat),k<=2/\i=.int .i64 (k:Int)/\v=.slice q (catT l1 l2 k).length c'/\Hid (qL w wr)/\Hid (wr.ownsRow w.heap.size 58 2 (.slice q (catT l1 l2 k).length c') (catT l1 l2 k).length (zbj (catT l1 l2 k))))
    (λi _ _=>2-(zL i).toNat)
   case atStart=>exact⟨0,q0,c0,zR _,rfl,rfl,HB1,HO1⟩
   case round=>
    obtain⟨k,q,c',hk,rfl,rfl,hB,hO⟩:=hrel
    clear a0 a1
    obtain⟨a0,a1⟩:=HA.out wr hB.out
    obtain⟨i0,hi,hz0,hz1,hz2⟩:=info_parts zsc
    have HD:=hid (⟨hi,hz0,hz1,hz2⟩:_/\_/\_/\_)
    clear hi hz0 hz1 hz2
    have HN0:=hid (show ∀j u,(zbj l1)[j]? =some u->wr.cell? ((⟨g1,o1,none⟩:Addr).add j)=some u from λj u hu=>by
     have ea:(⟨g1,o1,none⟩:Addr).add j=⟨g1,o1+j,none⟩:=by unfold Addr.add;split<;>simp_all
     rw[ea]
     exact HX.out wr hB.out _ _ hu)
    have HL:=hid (show(catT l1 l2 k).length<=4096 by
     obtain⟨e1,e2,e3⟩:=HX0.out
     match k,hk with
     |0,_=>exact zR _
     |1,_=>show l1.length<=4096;omega
     |2,_=>show(l1++l2).length<=4096;rw[zU];omega)
    match k,hk with
    |0,_=>
     go_wp2_with (at_builtin;refine wpList_append_own_at _ rfl _ _ 37 rfl w.heap.size 58 i0 (.agg #[St [],St []]) 2 32 Tryz.underlying37 HD.out.1 HD.out.2.1 HD.out.2.2.1 HD.out.2.2.2 rfl (by decide) (.slice q (catT l1 l2 0).length c') (catT l1 l2 0).length (zbj (catT l1 l2 0)) rfl hO.out ⟨g1,o1,none⟩ n1 c1 (zbj l1) rfl (by rw[zn8,HX0.out.1]) HN0.out (zui _) (by have:=HL.out;unfold maxLen;omega) (by have:=HL.out;omega) hB.out.size ?_)
     intro v' w2 hown' hgrow hnil hat
     obtain⟨q',c3,rfl⟩:=zpa hown'
     have HB2:=hid (hB.out.grown hgrow hB.out.size (λg e=>(hO.out.lt g e).1))
     have HO2:=hid (show w2.ownsRow w.heap.size 58 2 (.slice q' (catT l1 l2 1).length c3) (catT l1 l2 1).length (zbj (catT l1 l2 1)) by
      have e:catT l1 l2 1=catT l1 l2 0++l1:=(yI _).symm
      rw[e,zU,HX0.out.1,zjb];exact hown')
     have HE:=hid (show(catT l1 l2 0).length+n1=(catT l1 l2 1).length by
      have e:catT l1 l2 1=catT l1 l2 0++l1:=(yI _).symm
      rw[e,zU,HX0.out.1])
     clear hown' hgrow hnil hat
     go_wp2_with fail
     go_roundw
     case rel=>exact⟨1,q',c3,by omega,by go_num,by rw[<-HE.out],HB2,HO2⟩
     case measure=>simp[zL]
    |1,_=>
     go_wp2_with (at_builtin;refine wpList_append_own_none rfl _ _ 37 rfl w.heap.size 58 i0 2 Tryz.underlying37 HD.out.1 (.slice q (catT l1 l2 1).length c') (catT l1 l2 1).length (zbj (catT l1 l2 1)) rfl hO.out rfl ?_)
     have HE:=hid (show catT l1 l2 2=catT l1 l2 1 by
      have e:l2=[]:=List.length_eq_zero_iff.1 HX0.out.2.1
      subst e;first|rfl|exact yH _)
     go_wp2_with fail
     go_roundw
     case rel=>exact⟨2,q,c',by omega,by go_num,by rw[HE.out],hB,by rw[HE.out];exact hO⟩
     case measure=>simp[zL]
    |2,_=>
     have HE:=hid (show(catT l1 l2 2).length=N by
      obtain⟨e1,e2,e3⟩:=HX0.out
      show(l1++l2).length=N;rw[zU];omega)
     go_wp2_with fail
     go_ret
     refine⟨_,rfl,?_,hB.out⟩
     have:=hO.out
     rw[HE.out] at this
     rw[HE.out]
     exact this
theorem znt (b g2 o2 c2 n2 N:Nat) (l1 l2:List (List UInt8×List UInt8)) (hN:0+n2=N) (hN2:N<=4096) (w:zA)
 (GR:Hid (∀W:zA,zC zF 137 #[.slice none 0 0,.int .i64 (N:Int)] W λe w'=>∃v,e=.returned v/\w'.ownsRow W.heap.size 58 2 v 0 []/\zB W.heap.size W w'))
 (hx:l1.length=0) (hy:l2.length=n2)
 (HY:Hid (∀W:zA,qL w W->∀j u,(zbj l2)[j]? =some u->W.cell? ⟨g2,o2+j,none⟩=some u))
 (HA:Hid (∀W:zA,qL w W->W.cell? ⟨b,0,none⟩=some (.slice none 0 0)/\W.cell? ⟨b,1,none⟩=some (.slice (some ⟨g2,o2,none⟩) n2 c2))):
 zC zF 92 #[.slice (some ⟨b,0,none⟩) 2 2] w λe w'=>∃v,e=.returned v/\w'.ownsRow w.heap.size 58 2 v N (zbj (l1++l2))/\zB w.heap.size w w':=by
 obtain⟨a0,a1⟩:=HA.out w (zM _ _)
 have hw0:IntKind.i64.wrap (0+(0:Int))=(0:Int):=by rw[zI _ ⟨by omega,by omega⟩];omega
 have hw1:IntKind.i64.wrap ((0:Int)+(n2:Int))=(N:Int):=by rw[zI _ ⟨by omega,by omega⟩];omega
 have hn0:¬(0:Int)<0:=by omega
 have hn1:¬(N:Int)<0:=by omega
 go_enter Tryz.func92,Tryz.ntmps92
 go_wp2_with fail
 go_loopw [11,3] (λi z wr=>∃(k:Nat),k<=2/\i=.int .i64 (k:Int)/\z=.int .i64 (if k=0 then 0 else if k=1 then(0:Int) else(N:Int))/\Hid (wr=w))
  (λi _ _=>2-(zL i).toNat)
 case atStart=>exact⟨0,zR _,rfl,rfl,hid rfl⟩
 case round=>
  obtain⟨k,hk,rfl,rfl,hB⟩:=hrel
  obtain rfl:=hB.out.symm
  clear hB
  match k,hk with
  |0,_=>
   go_wp2_with fail
   go_roundw
   case rel=>exact⟨1,by omega,by go_num,by simp<;>omega,hid trivial⟩
   case measure=>simp[zL]
  |1,_=>
   go_wp2_with fail
   go_roundw
   case rel=>exact⟨2,by omega,by go_num,by simp<;>omega,hid trivial⟩
   case measure=>simp[zL]
  |2,_=>
   go_wp2_with fail
   refine(GR.out w).mono ?_
   rintro e w1 ⟨v,rfl,hown,hb1⟩
   obtain⟨q0,c0,rfl⟩:=zpa hown
   have HO1:=hid hown;have HB1:=hid hb1
   clear hown hb1 GR hw0 hw1 hn0 hn1
   have HX0:=hid (⟨hx,hy,hN⟩:_/\_/\_)
   clear hx hy
   go_wp2_with fail
   go_loopw [27,6] (λi v wr=>∃(k:Nat) (q:Option Addr) (c':Nat),k<=2/\i=.int .i64 (k:Int)/\v=.slice q (catT l1 l2 k).length c'/\Hid (qL w wr)/\Hid (wr.ownsRow w.heap.size 58 2 (.slice q (catT l1 l2 k).length c') (catT l1 l2 k).length (zbj (catT l1 l2 k))))
    (λi _ _=>2-(zL i).toNat)
   case atStart=>exact⟨0,q0,c0,zR _,rfl,rfl,HB1,HO1⟩
   case round=>
    obtain⟨k,q,c',hk,rfl,rfl,hB,hO⟩:=hrel
    clear a0 a1
    obtain⟨a0,a1⟩:=HA.out wr hB.out
    obtain⟨i0,hi,hz0,hz1,hz2⟩:=info_parts zsc
    have HD:=hid (⟨hi,hz0,hz1,hz2⟩:_/\_/\_/\_)
    clear hi hz0 hz1 hz2
    have HN1:=hid (show ∀j u,(zbj l2)[j]? =some u->wr.cell? ((⟨g2,o2,none⟩:Addr).add j)=some u from λj u hu=>by
     have ea:(⟨g2,o2,none⟩:Addr).add j=⟨g2,o2+j,none⟩:=by unfold Addr.add;split<;>simp_all
     rw[ea]
     exact HY.out wr hB.out _ _ hu)
    have HL:=hid (show(catT l1 l2 k).length<=4096 by
     obtain⟨e1,e2,e3⟩:=HX0.out
     match k,hk with
     |0,_=>exact zR _
     |1,_=>show l1.length<=4096;omega
     |2,_=>show(l1++l2).length<=4096;rw[zU];omega)
    match k,hk with
    |0,_=>
     go_wp2_with (at_builtin;refine wpList_append_own_none rfl _ _ 37 rfl w.heap.size 58 i0 2 Tryz.underlying37 HD.out.1 (.slice q (catT l1 l2 0).length c') (catT l1 l2 0).length (zbj (catT l1 l2 0)) rfl hO.out rfl ?_)
     have HE:=hid (show catT l1 l2 1=catT l1 l2 0 by
      have e:l1=[]:=List.length_eq_zero_iff.1 HX0.out.1
      subst e;first|rfl|exact yH _)
     go_wp2_with fail
     go_roundw
     case rel=>exact⟨1,q,c',by omega,by go_num,by rw[HE.out],hB,by rw[HE.out];exact hO⟩
     case measure=>simp[zL]
    |1,_=>
     go_wp2_with (at_builtin;refine wpList_append_own_at _ rfl _ _ 37 rfl w.heap.size 58 i0 (.agg #[St [],St []]) 2 32 Tryz.underlying37 HD.out.1 HD.out.2.1 HD.out.2.2.1 HD.out.2.2.2 rfl (by decide) (.slice q (catT l1 l2 1).length c') (catT l1 l2 1).length (zbj (catT l1 l2 1)) rfl hO.out ⟨g2,o2,none⟩ n2 c2 (zbj l2) rfl (by rw[zn8,HX0.out.2.1]) HN1.out (zui _) (by have:=HL.out;unfold maxLen;omega) (by have:=HL.out;omega) hB.out.size ?_)
     intro v' w2 hown' hgrow hnil hat
     obtain⟨q',c3,rfl⟩:=zpa hown'
     have HB2:=hid (hB.out.grown hgrow hB.out.size (λg e=>(hO.out.lt g e).1))
     have HO2:=hid (show w2.ownsRow w.heap.size 58 2 (.slice q' (catT l1 l2 2).length c3) (catT l1 l2 2).length (zbj (catT l1 l2 2)) by
      have e:catT l1 l2 2=catT l1 l2 1++l2:=rfl
      rw[e,zU,HX0.out.2.1,zjb];exact hown')
     have HE:=hid (show(catT l1 l2 1).length+n2=(catT l1 l2 2).length by
      have e:catT l1 l2 2=catT l1 l2 1++l2:=rfl
      rw[e,zU,HX0.out.2.1])
     clear hown' hgrow hnil hat
     go_wp2_with fail
     go_roundw
     case rel=>exact⟨2,q',c3,by omega,by go_num,by rw[<-HE.out],HB2,HO2⟩
     case measure=>simp[zL]
    |2,_=>
     have HE:=hid (show(catT l1 l2 2).length=N by
      obtain⟨e1,e2,e3⟩:=HX0.out
      show(l1++l2).length=N;rw[zU];omega)
     go_wp2_with fail
     go_ret
     refine⟨_,rfl,?_,hB.out⟩
     have:=hO.out
     rw[HE.out] at this
     rw[HE.out]
     exact this
theorem znw (b N:Nat) (l1 l2:List (List UInt8×List UInt8)) (hN:0+0=N) (_:N<=4096) (w:zA)
 (GR:Hid (∀W:zA,zC zF 137 #[.slice none 0 0,.int .i64 (N:Int)] W λe w'=>∃v,e=.returned v/\w'.ownsRow W.heap.size 58 2 v 0 []/\zB W.heap.size W w'))
 (hx:l1.length=0) (hy:l2.length=0)
 (HA:Hid (∀W:zA,qL w W->W.cell? ⟨b,0,none⟩=some (.slice none 0 0)/\W.cell? ⟨b,1,none⟩=some (.slice none 0 0))):
 zC zF 92 #[.slice (some ⟨b,0,none⟩) 2 2] w λe w'=>∃v,e=.returned v/\w'.ownsRow w.heap.size 58 2 v N (zbj (l1++l2))/\zB w.heap.size w w':=by
 obtain⟨a0,a1⟩:=HA.out w (zM _ _)
 have hw0:IntKind.i64.wrap (0+(0:Int))=(0:Int):=by rw[zI _ ⟨by omega,by omega⟩];omega
 have hw1:IntKind.i64.wrap ((0:Int)+(0:Int))=(N:Int):=by rw[zI _ ⟨by omega,by omega⟩];omega
 have hn0:¬(0:Int)<0:=by omega
 have hn1:¬(N:Int)<0:=by omega
 go_enter Tryz.func92,Tryz.ntmps92
 go_wp2_with fail
 go_loopw [11,3] (λi z wr=>∃(k:Nat),k<=2/\i=.int .i64 (k:Int)/\z=.int .i64 (if k=0 then 0 else if k=1 then(0:Int) else(N:Int))/\Hid (wr=w))
  (λi _ _=>2-(zL i).toNat)
 case atStart=>exact⟨0,zR _,rfl,rfl,hid rfl⟩
 case round=>
  obtain⟨k,hk,rfl,rfl,hB⟩:=hrel
  obtain rfl:=hB.out.symm
  clear hB
  match k,hk with
  |0,_=>
   go_wp2_with fail
   go_roundw
   case rel=>exact⟨1,by omega,by go_num,by simp<;>omega,hid trivial⟩
   case measure=>simp[zL]
  |1,_=>
   go_wp2_with fail
   go_roundw
   case rel=>exact⟨2,by omega,by go_num,by simp<;>omega,hid trivial⟩
   case measure=>simp[zL]
  |2,_=>
   go_wp2_with fail
   refine(GR.out w).mono ?_
   rintro e w1 ⟨v,rfl,hown,hb1⟩
   obtain⟨q0,c0,rfl⟩:=zpa hown
   have HO1:=hid hown;have HB1:=hid hb1
   clear hown hb1 GR hw0 hw1 hn0 hn1
   have HX0:=hid (⟨hx,hy,hN⟩:_/\_/\_)
   clear hx hy
   go_wp2_with fail
   go_loopw [27,6] (λi v wr=>∃(k:Nat) (q:Option Addr) (c':Nat),k<=2/\i=.int .i64 (k:Int)/\v=.slice q (catT l1 l2 k).length c'/\Hid (qL w wr)/\Hid (wr.ownsRow w.heap.size 58 2 (.slice q (catT l1 l2 k).length c') (catT l1 l2 k).length (zbj (catT l1 l2 k))))
    (λi _ _=>2-(zL i).toNat)
   case atStart=>exact⟨0,q0,c0,zR _,rfl,rfl,HB1,HO1⟩
   case round=>
    obtain⟨k,q,c',hk,rfl,rfl,hB,hO⟩:=hrel
    clear a0 a1
    obtain⟨a0,a1⟩:=HA.out wr hB.out
    obtain⟨i0,hi,hz0,hz1,hz2⟩:=info_parts zsc
    have HD:=hid (⟨hi,hz0,hz1,hz2⟩:_/\_/\_/\_)
    clear hi hz0 hz1 hz2
    have HL:=hid (show(catT l1 l2 k).length<=4096 by
     obtain⟨e1,e2,e3⟩:=HX0.out
     match k,hk with
     |0,_=>exact zR _
     |1,_=>show l1.length<=4096;omega
     |2,_=>show(l1++l2).length<=4096;rw[zU];omega)
    match k,hk with
    |0,_=>
     go_wp2_with (at_builtin;refine wpList_append_own_none rfl _ _ 37 rfl w.heap.size 58 i0 2 Tryz.underlying37 HD.out.1 (.slice q (catT l1 l2 0).length c') (catT l1 l2 0).length (zbj (catT l1 l2 0)) rfl hO.out rfl ?_)
     have HE:=hid (show catT l1 l2 1=catT l1 l2 0 by
      have e:l1=[]:=List.length_eq_zero_iff.1 HX0.out.1
      subst e;first|rfl|exact yH _)
     go_wp2_with fail
     go_roundw
     case rel=>exact⟨1,q,c',by omega,by go_num,by rw[HE.out],hB,by rw[HE.out];exact hO⟩
     case measure=>simp[zL]
    |1,_=>
     go_wp2_with (at_builtin;refine wpList_append_own_none rfl _ _ 37 rfl w.heap.size 58 i0 2 Tryz.underlying37 HD.out.1 (.slice q (catT l1 l2 1).length c') (catT l1 l2 1).length (zbj (catT l1 l2 1)) rfl hO.out rfl ?_)
     have HE:=hid (show catT l1 l2 2=catT l1 l2 1 by
      have e:l2=[]:=List.length_eq_zero_iff.1 HX0.out.2.1
      subst e;first|rfl|exact yH _)
     go_wp2_with fail
     go_roundw
     case rel=>exact⟨2,q,c',by omega,by go_num,by rw[HE.out],hB,by rw[HE.out];exact hO⟩
     case measure=>simp[zL]
    |2,_=>
     have HE:=hid (show(catT l1 l2 2).length=N by
      obtain⟨e1,e2,e3⟩:=HX0.out
      show(l1++l2).length=N;rw[zU];omega)
     go_wp2_with fail
     go_ret
     refine⟨_,rfl,?_,hB.out⟩
     have:=hO.out
     rw[HE.out] at this
     rw[HE.out]
     exact this
theorem zmc (g cap n:Nat) (hn:n<=12) (X Y:Nat->List UInt8)
 (CM:Hid (∀k,k+1<n->qK 130 #[.agg #[St (X (k+1)),St (Y (k+1))],.agg #[St (X k),St (Y k)]] (.int .i64 1)))
 (w:zA) (HW:Hid (Wd w)) (HC:Hid (∀k,k<n->w.cell? ⟨g,k*2,none⟩=some (St (X k))/\w.cell? ⟨g,k*2+1,none⟩=some (St (Y k)))):
 zC zF 200 #[.slice (some ⟨g,0,none⟩) n cap,.int .i64 0,.int .i64 (n:Int),.func (.func 130) #[] #[]] w λe w'=>(∃u,e=.returned u)/\zB w.heap.size w w':=by
 have D0:=hid (zM w.heap.size w)
 go_enter Tryz.func200,Tryz.ntmps200
 go_wp2_with fail
 go_loopw [8] (λi wr=>∃(i0:Nat),1<=i0/\i0<=n+1/\i=.int .i64 (i0:Int)/\Hid (qL w wr))
  (λi _=>n+1-(zL i).toNat)
 case atStart=>exact⟨1,by omega,by omega,rfl,D0⟩
 case round=>
  clear D0
  obtain⟨i0,h1,h2,rfl,D1⟩:=hrel
  by_cases hlt:i0<n
  ·obtain⟨m,hm⟩:∃m,i0=m+1:=⟨i0-1,by omega⟩
   have hcm:=CM.out m (by omega)
   rw[<-hm] at hcm
   have hmn:m<n:=by omega
   have hwm:IntKind.i64.wrap ((i0:Int)-1)=(m:Int):=by rw[zI _ (by omega)];omega
   have hw1:IntKind.i64.wrap ((i0:Int)+1)=(i0:Int)+1:=zI _ (by omega)
   have hi0:(0:Int)<(i0:Int):=by omega
   have hx1:=HC.out i0 hlt
   have hx0:=HC.out m hmn
   have HC1:Hid (wr.cell? ⟨g,i0*2,none⟩=some (St (X i0))/\wr.cell? ⟨g,i0*2+1,none⟩=some (St (Y i0))):=hid ⟨zai D1.out hx1.1,zai D1.out hx1.2⟩
   have HC0:Hid (wr.cell? ⟨g,m*2,none⟩=some (St (X m))/\wr.cell? ⟨g,m*2+1,none⟩=some (St (Y m))):=hid ⟨zai D1.out hx0.1,zai D1.out hx0.2⟩
   have HCM:=hid hcm
   have HM:=hid hm
   clear hcm hx1 hx0 hm
   generalize X i0=x1 at*
   generalize Y i0=y1 at*
   generalize X m=x0 at*
   generalize Y m=y0 at*
   go_wp2_with fail
   refine wp_loop_rounds 1 ?_
   rw[rounds_succ]
   go_wp2_with fail
   focus
    refine zbl (λ_ W=>qL wr W) (by kernel_rfl) (by kernel_rfl) (zM _ _).drew ?_
    refine qR (.int .i64 (i0:Int)) ?_ (hy:=λf W' hf h=>by go_simp;try omega)
    simp only[zzQ]
    refine qR (.int .i64 0) ?_ (hy:=λf W' hf h=>by go_simp;try omega)
    simp only[zzQ]
    refine qR (.bool true) ?_ (hy:=λf W' hf h=>by go_simp;try omega)
    simp only[zzQ]
    refine qR (.bool true) ?_ (hy:=λf W' hf h=>by go_simp;try omega)
    simp only[zzQ]
    refine qR (.func (.func 130) #[] #[]) ?_ (hy:=λf W' hf h=>by go_simp;try omega)
    simp only[zzQ]
    refine qR (.slice (some ⟨g,0,none⟩) n cap) ?_ (hy:=λf W' hf h=>by go_simp;try omega)
    simp only[zzQ]
    refine qR (.int .i64 (i0:Int)) ?_ (hy:=λf W' hf h=>by go_simp;try omega)
    simp only[zzQ]
    refine qR (.pointer (some ⟨g,i0*2,none⟩)) ?_ (hy:=λf W' hf h=>by go_simp;try omega)
    simp only[zzQ]
    refine qR (.agg #[St x1,St y1]) ?_ (hy:=λf W' hf h=>by obtain⟨c0,c1⟩:=HC1.out;have d0:=zai h c0;have d1:=zai h c1;go_simp;try omega)
    simp only[zzQ]
    refine qR (.slice (some ⟨g,0,none⟩) n cap) ?_ (hy:=λf W' hf h=>by go_simp;try omega)
    simp only[zzQ]
    refine qR (.int .i64 (i0:Int)) ?_ (hy:=λf W' hf h=>by go_simp;try omega)
    simp only[zzQ]
    refine qR (.int .i64 (m:Int)) ?_ (hy:=λf W' hf h=>by go_simp;try omega)
    simp only[zzQ]
    refine qR (.pointer (some ⟨g,m*2,none⟩)) ?_ (hy:=λf W' hf h=>by go_simp;try omega)
    simp only[zzQ]
    refine qR (.agg #[St x0,St y0]) ?_ (hy:=λf W' hf h=>by obtain⟨c0,c1⟩:=HC0.out;have d0:=zai h c0;have d1:=zai h c1;go_simp;try omega)
    simp only[zzQ]
    refine zar (.int .i64 1) (by rfl) (λf W' hf h C' hC'=>by
     go_simp
     refine(HCM.out _ (HW.out.below (D1.out.trans (h.mono D1.out.size)))).mono ?_
     rintro e w' ⟨rfl,hb⟩
     exact⟨rfl,hC' _ (h.trans (hb.mono h.size))⟩) ?_
    try simp only[zzQ]
    refine qR (.bool false) ?_ (hy:=λf W' hf h=>by go_simp;try omega)
    simp only[zzQ]
    refine qR (.bool false) ?_ (hy:=λf W' hf h=>by go_simp;try omega)
    simp only[zzQ]
    refine zck λf X hf h=>?_
    have HB:=hid (D1.out.trans (h.mono D1.out.size))
    clear hf h
    go_wp2_with fail
    go_roundw
    case rel=>exact⟨i0+1,by omega,by omega,by go_num,HB⟩
    case measure=>simp[zL];omega
  ·go_wp2_with fail
   go_end0
   exact⟨⟨_,rfl⟩,D1.out⟩
theorem zrk (v f:Value) (n:Nat) (hn:n<=12) (b:Int) (w:zA)
 (IN:Hid (zC zF 200 #[v,.int .i64 0,.int .i64 (n:Int),f] w λe w'=>(∃u,e=.returned u)/\zB w.heap.size w w')):
 zC zF 167 #[v,.int .i64 0,.int .i64 (n:Int),.int .i64 b,f] w λe w'=>(∃u,e=.returned u)/\zB w.heap.size w w':=by
 have hw0:IntKind.i64.wrap ((n:Int)-0)=(n:Int):=by rw[zI _ (by omega)];omega
 have hw1:IntKind.i64.wrap (n:Int)=(n:Int):=zI _ (by omega)
 have h12:(n:Int)<=12:=by omega
 go_enter Tryz.func167,Tryz.ntmps167
 go_wp2_with fail
 refine wp_loop_rounds 1 ?_
 rw[rounds_succ]
 go_wp2_with fail
 refine IN.out.mono ?_
 rintro e w' ⟨⟨u,rfl⟩,hb⟩
 have HB:=hid hb;clear hb
 go_wp2_with fail
 refine bodyPost_ret (results_none rfl _ _ _) rfl ?_
 exact⟨⟨_,rfl⟩,HB.out⟩
theorem zgo (v:Value) (p:Option Addr) (cap:Nat) (f:Value) (n:Nat) (hn:n<=12) (hv:v=.slice p n cap) (w:zA)
 (IN:Hid (zC zF 200 #[.slice p n cap,.int .i64 0,.int .i64 (n:Int),f] w λe w'=>(∃u,e=.returned u)/\zB w.heap.size w w')):
 zC zF 129 #[v,f] w λe w'=>(∃u,e=.returned u)/\zB w.heap.size w w':=by
 have hl:=Tryz.bits_Len n w (by omega) (by omega)
 have HL:=hid hl;clear hl
 have HI:=hid λm=>zrk (.slice p n cap) f n hn m w IN
 have hwu:IntKind.u64.wrap (n:Int)=(n:Int):=IntWalk.u64_in _ (by omega)
 subst hv
 go_enter Tryz.func129,Tryz.ntmps129
 go_wp2_with fail
 refine HL.out.mono ?_
 rintro e w' ⟨rfl,rfl⟩
 go_wp2_with fail
 refine(HI.out _).mono ?_
 rintro e w'' ⟨⟨u,rfl⟩,hb⟩
 have HB:=hid hb;clear hb
 go_wp2_with fail
 go_end0
 exact⟨⟨_,rfl⟩,HB.out⟩
theorem zgi (v f:Value) (w:zA):
 zC zF 200 #[v,.int .i64 0,.int .i64 ((0:Nat):Int),f] w λe w'=>(∃u,e=.returned u)/\zB w.heap.size w w':=by
 go_enter Tryz.func200,Tryz.ntmps200
 go_wp2_with fail
 refine wp_loop_rounds 1 ?_
 rw[rounds_succ]
 go_wp2_with fail
 go_end0
 exact⟨⟨_,rfl⟩,zM _ _⟩
theorem zmd (p:Option Addr) (cap n:Nat) (Y:Nat->List UInt8) (f:Value) (hn:n<=5000) (w:zA)
 (HT:Hid (∀i,i<n->∃b off,p=some ⟨b,off,none⟩/\w.cell? ⟨b,off+i*2,none⟩=some (.string ⟨#[48]⟩)/\w.cell? ⟨b,off+i*2+1,none⟩=some (St (Y i)))):
 qJ 126 #[.slice p n cap,f] w (.int .i64 0):=by
 have D0:=hid (zM w.heap.size w)
 go_enter Tryz.func126,Tryz.ntmps126
 go_wp2_with fail
 go_loopw [13] (λi wr=>∃(k:Nat),k<=n/\i=.int .i64 (k:Int)/\Hid (qL w wr))
  (λi _=>n-(zL i).toNat)
 case atStart=>exact⟨0,zR _,rfl,D0⟩
 case round=>
  clear D0
  obtain⟨k,hk,rfl,D1⟩:=hrel
  by_cases hlt:k<n
  ·obtain⟨b,off,rfl,c0,c1⟩:=HT.out k hlt
   generalize Y k=y at*
   have t0:wr.cell? ⟨b,off+k*2,none⟩=some (.string ⟨#[48]⟩):=zai D1.out c0
   have t1:wr.cell? ⟨b,off+k*2+1,none⟩=some (St y):=zai D1.out c1
   obtain⟨v1,hv⟩:∃v1,v1=wr.alloc (.cells #[.string ⟨#[48]⟩,St y] 58):=⟨_,rfl⟩
   have a1:qL wr v1:=by rw[hv];exact(zM _ wr).alloc (zN _) _
   have A1:v1.heap[wr.heap.size]? =some (.cells #[.string ⟨#[48]⟩,St y] 58 (0,0)):=by rw[hv];exact zG wr _
   have k0:v1.cell? ⟨wr.heap.size,0,none⟩=some (.string ⟨#[48]⟩):=by rw[zJ A1];rfl
   have k1:v1.cell? ⟨wr.heap.size,1,none⟩=some (St y):=by rw[zJ A1];rfl
   rw[hv] at k0 k1
   have HV1:=hid hv.symm
   have E1:=hid a1
   clear hv a1 A1 c0 c1
   go_wp2_with fail
   rw[HV1.out] at*
   clear t0 t1 HV1
   have E2:=hid (D1.out.trans (E1.out.mono D1.out.size))
   clear E1
   go_roundw
   case rel=>exact⟨k+1,by omega,by go_num,E2⟩
   case measure=>simp[zL];omega
  ·go_wp2_with fail
   go_ret
   exact⟨rfl,D1.out⟩
def SdL (v:Value) (l:List (Rat×Nat)) (W:zA):Prop:=
 (v=.slice none 0 0/\l=[])\/∃b off cap,v=.slice (some ⟨b,off,none⟩) l.length cap/\l.length<=cap/\b<W.heap.size/\
   ∀i t,l[i]? =some t->W.cell? ⟨b,off+i*2,none⟩=some (St (numS t.1))/\W.cell? ⟨b,off+i*2+1,none⟩=some (St (zD t.2))
theorem SdL.below {v:Value} {l:List (Rat×Nat)} {W W':zA} (h:SdL v l W) (hb:qL W W'):SdL v l W':=by
 rcases h with h|⟨b,off,cap,e,hc,hl,hx⟩
 ·exact .inl h
 ·exact .inr ⟨b,off,cap,e,hc,Nat.lt_of_lt_of_le hl hb.size,λi t ht=>⟨zai hb (hx i t ht).1,zai hb (hx i t ht).2⟩⟩
theorem SdL.slice {v:Value} {l:List (Rat×Nat)} {W:zA} (h:SdL v l W):∃p cap,v=.slice p l.length cap/\l.length<=cap/\∀i t,l[i]? =some t->∃b off,p=some ⟨b,off,none⟩/\b<W.heap.size/\W.cell? ⟨b,off+i*2,none⟩=some (St (numS t.1))/\W.cell? ⟨b,off+i*2+1,none⟩=some (St (zD t.2)):=by
 rcases h with⟨rfl,rfl⟩|⟨b,off,cap,e,hc,hl,hx⟩
 ·exact⟨none,0,rfl,zN _,λi t ht=>by simp at ht⟩
 ·exact⟨_,cap,e,hc,λi t ht=>⟨b,off,rfl,hl,hx i t ht⟩⟩
theorem SdL.nil (W:zA):SdL (.slice none 0 0) [] W:=.inl ⟨rfl,rfl⟩
theorem SdL.own {B n c:Nat} {q:Option Addr} {l:List (Rat×Nat)} {W:zA} (h:W.ownsRow B 58 2 (.slice q n c) n (zbj (l.map strT))) (hn:n=l.length):SdL (.slice q n c) l W:=by
 subst hn
 rcases h.2 with⟨e,e0⟩|⟨g,cp,cur,e,hg1,hg2,hnc,_⟩
 ·injection e with e1 e2 e3
  subst e1;subst e3
  exact .inl ⟨by rw[e0],List.length_eq_zero_iff.1 e0⟩
 ·have hcap:l.length<=c:=by injection e with e1 e2 e3;omega
  injection e with e1 e2 e3
  subst e1
  refine .inr ⟨g,0,c,rfl,hcap,(Array.getElem?_eq_some_iff.1 hg2).1,λi t ht=>?_⟩
  have hm:(l.map strT)[i]? =some (strT t):=by rw[List.getElem?_map,ht];rfl
  obtain⟨k0,k1⟩:=zpb _ i _ hm
  obtain⟨g',c',e', -,hx⟩:=zye h (by have:=(List.getElem?_eq_some_iff.1 ht).1;omega)
  injection e' with e1' _ _
  injection e1' with e1'
  cases e1'
  rw[Nat.zero_add]
  exact⟨hx _ _ k0,hx _ _ k1⟩
theorem zjg (T:List (Rat×Nat)) (hlen:T.length<=256) (hz:∀t∈T,t.1=0) (hr:∀t∈T,NrmR t.2) (v:Value) (w:zA) (HW:Hid (∀W,qL w W->Wd W)) (hs:SdL v T w):
 zC zF 80 #[v] w λe w'=>∃v',e=.returned (.tuple #[v',.int .i64 0])/\zB w.heap.size w w'/\SdL v' [] w':=by
 obtain⟨p,cap,rfl, -,hx⟩:=hs.slice
 have n0:=nm0
 have d0:∀t∈T,numS t.1=[48]:=λt ht=>by rw[hz t ht,n0]
 let Y:Nat->List UInt8:=λi=>zD ((T[i]?.getD (0,1)).2)
 have at_:∀i,i<T.length->∃t,T[i]? =some t:=λi hi=>⟨_,yB hi⟩
 have hY:∀i t,T[i]? =some t->Y i=zD t.2:=λi t h=>by show zD ((T[i]?.getD (0,1)).2)=_;rw[h];rfl
 have hm:=z43 p cap T.length (λ_=>[48]) Y [] [] hlen (by simp) (by simp[zin])
  (hid λi hi W hW=>by have:=zfj 0 (zm5 zb7.1) W hW;rw[n0] at this;exact this)
  (hid λi hi W hW=>by
    obtain⟨t,ht⟩:=at_ i hi
    rw[hY i t ht]
    have hn:=hr t (List.mem_of_getElem? ht)
    have:=zfj (t.2:Rat) (zd0 (by omega) (by omega) (zrg (k:=16) (by omega) hn.len)) W hW
    rw[zhe] at this;exact this)
  (hid λi hi W=>by
    obtain⟨t,ht⟩:=at_ i hi
    rw[hY i t ht]
    exact zgy t.2 W)
  w HW
  (hid λi hi=>by
    obtain⟨t,ht⟩:=at_ i hi
    obtain⟨b,off,e,hb,c0,c1⟩:=hx i t ht
    rw[d0 t (List.mem_of_getElem? ht)] at c0
    rw[hY i t ht]
    exact⟨b,off,e,hb,c0,c1⟩)
  (hid λu vg h1 h2 h3 h4=>by
    have hB:qL w vg:=h1.trans (h2.mono h1.size)
    refine(zmd p cap T.length Y _ (by omega) vg (hid λi hi=>?_)).mono λe w' ⟨e1,hb⟩=>⟨e1,hb.mono h2.size,h4.keep (zac hb)⟩
    obtain⟨t,ht⟩:=at_ i hi
    obtain⟨b,off,e,hb,c0,c1⟩:=hx i t ht
    rw[d0 t (List.mem_of_getElem? ht)] at c0
    rw[hY i t ht]
    exact⟨b,off,e,zai hB c0,zai hB c1⟩)
  (hid λi c hc _=>by simp at hc)
  (hid λB W q c h1 h2 h3 h4=>by
    exact(zgo (.slice q 0 c) q c _ 0 (by omega) rfl W (hid (zgi _ _ W))).mono λe w' ⟨h5,h6⟩=>⟨h5,h6.mono h3,zcj (zac h6) h4⟩)
 exact hm.mono λe w' ⟨q',c',e1,hb,ho⟩=>⟨_,e1,hb,SdL.own (l:=[]) ho rfl⟩
def incR (l:List (Rat×Nat)):Prop:=∀(i:Nat) (t u:Rat×Nat),l[i]? =some t->l[i+1]? =some u->t.2<u.2
theorem zhh (T:List (Rat×Nat)) (hT:MkT T) (hF:∀c∈mkR T,sz c.1 60) (hl:(mkR T).length<=12) (hi:incR (mkR T)) (v:Value) (w:zA) (HW:Hid (∀W,qL w W->Wd W)) (HP:Hid (∀W,qL w W->Pw W)) (hs:SdL v T w):
 zC zF 80 #[v] w λe w'=>∃v',e=.returned (.tuple #[v',.int .i64 0])/\zB w.heap.size w w'/\SdL v' (mkR T) w':=by
 obtain⟨p,cap,rfl, -,hx⟩:=hs.slice
 have hnr:∀c∈mkR T,NrmR c.2:=λc hc=>by
  have hm:c∈gRun T T.length:=by rw[zfq];exact(List.mem_filter.1 hc).1
  obtain⟨t,ht,e⟩:=zd1 _ hm
  rw[<-e];exact hT.nr t ht
 have hm:=zpc T hT hF (by omega) (mkR T) p cap w HW HP (hid hx) (hid λB W p c hW hB ho=>by
  rcases Nat.eq_zero_or_pos (mkR T).length with e0|e0
  ·refine(zgo _ p c _ 0 (by omega) (by rw[e0]) W (hid (zgi _ _ W))).mono λe w' ⟨h5,h6⟩=>⟨h5,h6.mono hB,zcj (zac h6) ho⟩
  ·obtain⟨-,g,rfl, -, -, -,hc⟩:=zly ho e0
   let X:Nat->List UInt8:=λi=>numS (((mkR T)[i]?.getD (1,1)).1)
   let Y:Nat->List UInt8:=λi=>zD (((mkR T)[i]?.getD (1,1)).2)
   have hX:∀i t,(mkR T)[i]? =some t->X i=numS t.1/\Y i=zD t.2:=λi t h=>⟨by show numS (((mkR T)[i]?.getD (1,1)).1)=_;rw[h];rfl,by show zD (((mkR T)[i]?.getD (1,1)).2)=_;rw[h];rfl⟩
   have at_:∀i,i<(mkR T).length->∃t,(mkR T)[i]? =some t:=λi hi=>⟨_,yB hi⟩
   refine(zgo _ (some ⟨g,0,none⟩) c _ (mkR T).length hl rfl W (hid (zmc g c (mkR T).length hl X Y (hid λk hk V hV=>?_) W (hid hW) (hid λk hk=>?_)))).mono λe w' ⟨h5,h6⟩=>⟨h5,h6.mono hB,zcj (zac h6) ho⟩
   ·obtain⟨t,ht⟩:=at_ k (by omega)
    obtain⟨u,hu⟩:=at_ (k+1) hk
    rw[(hX k t ht).1,(hX k t ht).2,(hX _ u hu).1,(hX _ u hu).2]
    have hlt:=hi k t u ht hu
    have st:sz (t.2:Rat) 16:=zrg (by omega) (hnr t (List.mem_of_getElem? ht)).len
    have su:sz (u.2:Rat) 16:=zrg (by omega) (hnr u (List.mem_of_getElem? hu)).len
    refine z5e _ _ _ _ 1 (hid λU hU=>?_) V (hid hV)
    have:=zgq (u.2:Rat) (t.2:Rat) 16 16 (by omega) (by omega) (by omega) su st U hU
    have h2:(t.2:Rat)<(u.2:Rat):=by exact_mod_cast hlt
    have e:Geo.cmpR (u.2:Rat) (t.2:Rat)=1:=by have:=Geo.zaw (u.2:Rat) (t.2:Rat);grind
    rw[e,zhe,zhe] at this
    exact this
   ·obtain⟨t,ht⟩:=at_ k hk
    rw[(hX k t ht).1,(hX k t ht).2]
    exact hc k (strT t) (by rw[List.getElem?_map,ht];rfl))
 exact hm.mono λe w' ⟨q',c',e1,hb,ho⟩=>⟨_,e1,hb,SdL.own ho rfl⟩
structure SdOk (l:List (Rat×Nat)):Prop where
 len:l.length<=12
 trm:∀t∈l,TrmR t.1 t.2
 inc:incR l
 apt:∀(i k:Nat) (t u:Rat×Nat),i≠k->l[i]? =some t->l[k]? =some u->z5c (u.2:Rat) (t.2:Rat)=false
theorem SdOk.nil:SdOk []:=⟨by simp,λt h=>(by cases h),λi t u h=>(by simp at h),λi k t u _ h=>(by simp at h)⟩
theorem SdOk.one {c:Rat} {r:Nat} (h:TrmR c r):SdOk [(c,r)]:=
 ⟨by simp,λt ht=>by simp at ht;subst ht;exact h,λi t u h1 h2=>by simp at h2,λi k t u hik h1 h2=>by
   have:=(List.getElem?_eq_some_iff.1 h2).1
   have:=(List.getElem?_eq_some_iff.1 h1).1
   simp at*;omega⟩
theorem zbh (v:Value) (l:List (Rat×Nat)) (hl:SdOk l) (w:zA) (hw:Wd w) (hp:Pw w) (hs:SdL v l w):
 qJ 40 #[v] w (.int .i64 0):=by
 obtain⟨p,cap,rfl,hc,hx⟩:=hs.slice
 have at_:∀i,i<l.length->∃t,l[i]? =some t:=λi hi=>⟨_,yB hi⟩
 have hg:∀(i:Nat) (t:Rat×Nat),l[i]? =some t->l[i]?.getD (1,1)=t:=λi t h=>by rw[h];rfl
 refine zos p cap l.length (λi=>(l[i]?.getD (1,1)).1) (λi=>(l[i]?.getD (1,1)).2) ⟨by have:=hl.len;omega,λi hi=>?_,λi hi=>?_,λi k hik hk=>?_⟩ hc w hw hp λi hi=>?_
 ·obtain⟨t,ht⟩:=at_ i hi
  rw[hg i t ht];exact hl.trm t (List.mem_of_getElem? ht)
 ·obtain⟨t,ht⟩:=at_ i (by omega)
  obtain⟨u,hu⟩:=at_ (i+1) hi
  rw[hg i t ht,hg _ u hu];exact hl.inc i t u ht hu
 ·obtain⟨t,ht⟩:=at_ i (by omega)
  obtain⟨u,hu⟩:=at_ k hk
  rw[hg i t ht,hg _ u hu];exact hl.apt i k t u (by omega) ht hu
 ·obtain⟨t,ht⟩:=at_ i hi
  obtain⟨b,off,e,_,c0,c1⟩:=hx i t ht
  simp only[hg i t ht]
  exact⟨b,off,e,c0,c1⟩
theorem zj8 (b:Nat) (v1 v2:Value) (l1 l2:List (Rat×Nat)) (hN:l1.length+l2.length<=4096) (w:zA) (h1:SdL v1 l1 w) (h2:SdL v2 l2 w) (k0:w.cell? ⟨b,0,none⟩=some v1) (k1:w.cell? ⟨b,1,none⟩=some v2):
 zC zF 92 #[.slice (some ⟨b,0,none⟩) 2 2] w λe w'=>∃v,e=.returned v/\zB w.heap.size w w'/\SdL v (l1++l2) w':=by
 have gr:∀n:Nat,n<=4096->∀W:zA,zC zF 137 #[.slice none 0 0,.int .i64 (n:Int)] W λe w'=>∃v,e=.returned v/\w'.ownsRow W.heap.size 58 2 v 0 []/\zB W.heap.size W w':=λn hn W=>by
  rcases Nat.eq_zero_or_pos n with rfl|h
  ·exact zl9 W
  ·exact z62 n h (by omega) W
 have row:∀(g off:Nat) (l:List (Rat×Nat)),(∀i t,l[i]? =some t->w.cell? ⟨g,off+i*2,none⟩=some (St (numS t.1))/\w.cell? ⟨g,off+i*2+1,none⟩=some (St (zD t.2)))->∀W:zA,qL w W->∀j u,(zbj (l.map strT))[j]? =some u->W.cell? ⟨g,off+j,none⟩=some u:=λg off l h W hW j u hu=>by
  have hjl:j<(l.map strT).length*2:=by have:=(List.getElem?_eq_some_iff.1 hu).1;rwa [zn8] at this
  rw[List.length_map] at hjl
  obtain⟨t,ht⟩:∃t,l[j/2]? =some t:=⟨_,yB (by omega)⟩
  have hm:(l.map strT)[j/2]? =some (strT t):=by rw[List.getElem?_map,ht];rfl
  obtain⟨f0,f1⟩:=zpb _ _ _ hm
  obtain⟨c0,c1⟩:=h _ t ht
  rcases Nat.mod_two_eq_zero_or_one j with e|e
  ·have ej:j=j/2*2:=by omega
   rw[ej] at hu
   rw[hu] at f0
   injection f0 with f0
   rw[f0,ej]
   exact zai hW c0
  ·have ej:j=j/2*2+1:=by omega
   rw[ej] at hu
   rw[hu] at f1
   injection f1 with f1
   rw[f1,ej,<-Nat.add_assoc]
   exact zai hW c1
 have kk:∀W:zA,qL w W->W.cell? ⟨b,0,none⟩=some v1/\W.cell? ⟨b,1,none⟩=some v2:=λW h=>⟨zai h k0,zai h k1⟩
 have fin:∀{e:Ending} {w':zA},(∃v,e=.returned v/\w'.ownsRow w.heap.size 58 2 v (l1.length+l2.length) (zbj (l1.map strT++l2.map strT))/\zB w.heap.size w w')->∃v,e=.returned v/\zB w.heap.size w w'/\SdL v (l1++l2) w':=λ{e w'} ⟨v,he,ho,hb⟩=>by
  obtain⟨q,c,rfl⟩:=zpa ho
  rw[<-List.map_append] at ho
  exact⟨_,he,hb,SdL.own ho (by simp)⟩
 rcases h1 with⟨e1,e1'⟩|⟨b1,o1,c1,e1,hc1,hl1,hx1⟩<;>rcases h2 with⟨e2,e2'⟩|⟨b2,o2,c2,e2,hc2,hl2,hx2⟩
 ·subst e1;subst e1';subst e2;subst e2'
  exact(znw b 0 ([].map strT) ([].map strT) rfl (by omega) w (hid (gr 0 (by omega))) rfl rfl (hid kk)).mono λe w' h=>fin h
 ·subst e1;subst e1';subst e2
  exact(znt b b2 o2 c2 l2.length _ ([].map strT) (l2.map strT) rfl (by simpa using hN) w (hid (gr _ (by simpa using hN))) rfl (by simp) (hid (row b2 o2 l2 hx2)) (hid kk)).mono λe w' h=>fin h
 ·subst e1;subst e2;subst e2'
  exact(zns b b1 o1 c1 l1.length _ (l1.map strT) ([].map strT) rfl (by simpa using hN) w (hid (gr _ (by simpa using hN))) (by simp) rfl (hid (row b1 o1 l1 hx1)) (hid kk)).mono λe w' h=>fin h
 ·subst e1;subst e2
  exact(z5g b b1 o1 c1 b2 o2 c2 l1.length l2.length _ (l1.map strT) (l2.map strT) rfl hN w (hid (gr _ hN)) (by simp) (by simp) (hid (row b1 o1 l1 hx1)) (hid (row b2 o2 l2 hx2)) (hid kk)).mono λe w' h=>fin h
theorem zka (v1 v2:Value) (R2 R3:Value->zA->Prop) (w:zA)
 (B:Hid (qJ 90 #[v1,v2] w (.bool true)))
 (CN:Hid (∀(W:zA) (b:Nat),qL w W->W.cell? ⟨b,0,none⟩=some v1->W.cell? ⟨b,1,none⟩=some v2->zC zF 92 #[.slice (some ⟨b,0,none⟩) 2 2] W λe w'=>∃v,e=.returned v/\zB W.heap.size W w'/\R2 v w'))
 (M:Hid (∀(W:zA) (v:Value),qL w W->R2 v W->zC zF 80 #[v] W λe w'=>∃v',e=.returned (.tuple #[v',.int .i64 0])/\zB W.heap.size W w'/\R3 v' w'))
 (p1 p2:Option Addr) (n1 n2 c1 c2:Nat) (e1:v1=.slice p1 n1 c1) (e2:v2=.slice p2 n2 c2) (hsl:Hid (∀v W,R2 v W->∃q n c,v=.slice q n c)) (hsl3:Hid (∀v W,R3 v W->∃q n c,v=.slice q n c)):
 zC zF 89 #[v1,v2] w λe w'=>∃v,e=.returned (.tuple #[v,.int .i64 0])/\zB w.heap.size w w'/\R3 v w':=by
 subst e1;subst e2
 go_enter Tryz.func89,Tryz.ntmps89
 go_wp2_with fail
 refine B.out.mono ?_
 rintro e w1 ⟨rfl,hb1⟩
 obtain⟨v1,hv⟩:∃v1,v1=w1.alloc (.cells #[.slice p1 n1 c1,.slice p2 n2 c2] 37):=⟨_,rfl⟩
 have a1:qL w1 v1:=by rw[hv];exact(zM _ w1).alloc (zN _) _
 have A1:v1.heap[w1.heap.size]? =some (.cells #[.slice p1 n1 c1,.slice p2 n2 c2] 37 (0,0)):=by rw[hv];exact zG w1 _
 have hb:=hb1.trans (a1.mono hb1.size)
 have HC:=hid (CN.out v1 w1.heap.size hb (by rw[zJ A1];rfl) (by rw[zJ A1];rfl))
 have HV1:=hid hv.symm
 have B2:=hid hb
 clear hv a1 A1 CN hb hb1
 go_wp2_with fail
 rw[HV1.out]
 clear HV1
 refine HC.out.mono ?_
 rintro e w3 ⟨q2,rfl,hb3,hr3⟩
 obtain⟨q,n,c,rfl⟩:=hsl.out q2 w3 hr3
 have hb:=B2.out.trans (hb3.mono B2.out.size)
 have B3:=hid hb
 have HM:=hid (M.out w3 _ hb hr3)
 clear hb hb3 hr3 M HC B2
 go_wp2_with fail
 refine HM.out.mono ?_
 rintro e w4 ⟨q4,rfl,hb4,hr4⟩
 obtain⟨q',n',c',rfl⟩:=hsl3.out q4 w4 hr4
 have FE:=hid (⟨B3.out.trans (hb4.mono B3.out.size),hr4⟩:qL w w4/\R3 (.slice q' n' c') w4)
 clear hb4 hr4 HM B3
 go_wp2_with fail
 go_ret2
 exact⟨_,rfl,FE.out.1,FE.out.2⟩
theorem SdL.any {v:Value} {l:List (Rat×Nat)} {W:zA} (h:SdL v l W):∃q n c,v=.slice q n c:=by
 obtain⟨p,cap,e, -⟩:=h.slice
 exact⟨_,_,_,e⟩
theorem zqd (v1 v2:Value) (l1 l2:List (Rat×Nat)) (ok1:SdOk l1) (ok2:SdOk l2) (hT:MkT (l1++l2)) (hF:∀c∈mkR (l1++l2),sz c.1 60) (hl:(mkR (l1++l2)).length<=12) (hi:incR (mkR (l1++l2))) (w:zA) (HW:Hid (∀W,qL w W->Wd W)) (HP:Hid (∀W,qL w W->Pw W)) (h1:SdL v1 l1 w) (h2:SdL v2 l2 w):
 zC zF 89 #[v1,v2] w λe w'=>∃v,e=.returned (.tuple #[v,.int .i64 0])/\zB w.heap.size w w'/\SdL v (mkR (l1++l2)) w':=by
 obtain⟨p1,n1,c1,e1⟩:=h1.any
 obtain⟨p2,n2,c2,e2⟩:=h2.any
 refine zka v1 v2 (λv W=>SdL v (l1++l2) W) (λv W=>SdL v (mkR (l1++l2)) W) w
  (hid (z6g v1 v2 (λW=>qL w W) (λW W' h h'=>h.trans (h'.mono h.size)) (hid λW hW=>zbh v1 l1 ok1 W (HW.out W hW) (HP.out W hW) (h1.below hW)) (hid λW hW=>zbh v2 l2 ok2 W (HW.out W hW) (HP.out W hW) (h2.below hW)) w (zM _ _)))
  (hid λW b hW k0 k1=>zj8 b v1 v2 l1 l2 (by have:=ok1.len;have:=ok2.len;omega) W (h1.below hW) (h2.below hW) k0 k1)
  (hid λW v hW hv=>zhh (l1++l2) hT hF hl hi v W (hid λV hV=>HW.out V (hW.trans (hV.mono hW.size))) (hid λV hV=>HP.out V (hW.trans (hV.mono hW.size))) hv)
  p1 p2 n1 n2 c1 c2 e1 e2 (hid λv W h=>h.any) (hid λv W h=>h.any)
def sclL (l:List (Rat×Nat)) (c:Rat):List (Rat×Nat):=l.map λt=>(t.1*c,t.2)
theorem zkb (v:Value) (l:List (Rat×Nat)) (c:Rat) (hn:l.length<=256) (hs:∀t∈l,sz t.1 150) (hc:sz c 150) (w:zA) (HW:Hid (∀W,qL w W->Wd W)) (h:SdL v l w):
 zC zF 91 #[v,St (numS c)] w λe w'=>∃v',e=.returned (.tuple #[v',.int .i64 0])/\zB w.heap.size w w'/\SdL v' (sclL l c) w':=by
 obtain⟨p,cap,rfl, -,hx⟩:=h.slice
 let X:Nat->List UInt8:=λi=>numS ((l[i]?.getD (1,1)).1)
 let Y:Nat->List UInt8:=λi=>zD ((l[i]?.getD (1,1)).2)
 let C:Nat->List UInt8:=λi=>numS ((l[i]?.getD (1,1)).1*c)
 have at_:∀i,i<l.length->∃t,l[i]? =some t:=λi hi=>⟨_,yB hi⟩
 have hX:∀(i:Nat) (t:Rat×Nat),l[i]? =some t->X i=numS t.1/\Y i=zD t.2/\C i=numS (t.1*c):=λi t h=>⟨by show numS ((l[i]?.getD (1,1)).1)=_;rw[h];rfl,by show zD ((l[i]?.getD (1,1)).2)=_;rw[h];rfl,by show numS ((l[i]?.getD (1,1)).1*c)=_;rw[h];rfl⟩
 have hk:∀k,k<=l.length->scK C Y k=((sclL l c).take k).map strT:=by
  intro k
  induction k with
  |zero=>intro _;rfl
  |succ k ih=>
   intro hk
   obtain⟨t,ht⟩:=at_ k (by omega)
   have e:(sclL l c)[k]? =some (t.1*c,t.2):=by unfold sclL;rw[List.getElem?_map,ht];rfl
   show scK C Y k++[(C k,Y k)]=_
   rw[ih (by omega),(hX k t ht).2.1,(hX k t ht).2.2,List.take_add_one,e,List.map_append]
   rfl
 refine(z6y p cap l.length X Y C (numS c) hn w HW (hid λi hi W hW=>?_) (hid λi hi=>?_)).mono λe w' ⟨q,d,e1,hb,ho⟩=>⟨_,e1,hb,?_⟩
 ·obtain⟨t,ht⟩:=at_ i hi
  rw[(hX i t ht).1,(hX i t ht).2.2]
  exact zjf t.1 c 150 150 (by omega) (by omega) (by omega) (hs t (List.mem_of_getElem? ht)) hc W hW
 ·obtain⟨t,ht⟩:=at_ i hi
  rw[(hX i t ht).1,(hX i t ht).2.1]
  exact hx i t ht
 ·rw[hk _ (zN _)] at ho
  rw[List.take_of_length_le (by simp[sclL])] at ho
  exact SdL.own ho (by simp[sclL])
theorem zhq (v:Value) (x:List UInt8) (R2 R3:Value->zA->Prop) (w:zA)
 (K:Hid (qJ 40 #[v] w (.int .i64 0)))
 (N:Hid (∀W:zA,qL w W->qJ 27 #[St x] W (.int .i64 0)))
 (S:Hid (∀W:zA,qL w W->zC zF 91 #[v,St x] W λe w'=>∃v',e=.returned (.tuple #[v',.int .i64 0])/\zB W.heap.size W w'/\R2 v' w'))
 (M:Hid (∀(W:zA) (v:Value),qL w W->R2 v W->zC zF 80 #[v] W λe w'=>∃v',e=.returned (.tuple #[v',.int .i64 0])/\zB W.heap.size W w'/\R3 v' w'))
 (p1:Option Addr) (n1 c1:Nat) (e1:v=.slice p1 n1 c1) (hsl:Hid (∀v W,R2 v W->∃q n c,v=.slice q n c)) (hsl3:Hid (∀v W,R3 v W->∃q n c,v=.slice q n c)):
 zC zF 88 #[v,St x] w λe w'=>∃v',e=.returned (.tuple #[v',.int .i64 0])/\zB w.heap.size w w'/\R3 v' w':=by
 subst e1
 go_enter Tryz.func88,Tryz.ntmps88
 go_wp2_with fail
 refine K.out.mono ?_
 rintro e w1 ⟨rfl,hb1⟩
 have B1:=hid hb1
 have HN:=hid (N.out w1 hb1)
 clear hb1 N
 go_wp2_with fail
 refine HN.out.mono ?_
 rintro e w2 ⟨rfl,hb2⟩
 have hb:=B1.out.trans (hb2.mono B1.out.size)
 have HS:=hid (S.out w2 hb)
 have B2:=hid hb
 clear hb hb2 S HN B1
 go_wp2_with fail
 refine HS.out.mono ?_
 rintro e w3 ⟨q2,rfl,hb3,hr3⟩
 obtain⟨q,n,c,rfl⟩:=hsl.out q2 w3 hr3
 have hb:=B2.out.trans (hb3.mono B2.out.size)
 have B3:=hid hb
 have HM:=hid (M.out w3 _ hb hr3)
 clear hb hb3 hr3 M HS B2
 go_wp2_with fail
 refine HM.out.mono ?_
 rintro e w4 ⟨q4,rfl,hb4,hr4⟩
 obtain⟨q',n',c',rfl⟩:=hsl3.out q4 w4 hr4
 have FE:=hid (⟨B3.out.trans (hb4.mono B3.out.size),hr4⟩:qL w w4/\R3 (.slice q' n' c') w4)
 clear hb4 hr4 HM B3
 go_wp2_with fail
 go_ret2
 exact⟨_,rfl,FE.out.1,FE.out.2⟩
theorem zkc (t:Rat×Nat):∀l:List (Rat×Nat),(∀c∈l,c.2≠t.2)->gAdd l t=l++[t]
 |[],_=>rfl
 |c::l,h=>by
  unfold gAdd
  rw[if_neg (h c (List.mem_cons_self ..)),zkc t l (λd hd=>h d (List.mem_cons_of_mem _ hd))]
  rfl
theorem zpj {l:List (Rat×Nat)} (h:∀(i k:Nat) (t u:Rat×Nat),i<k->l[i]? =some t->l[k]? =some u->t.2≠u.2):∀i,i<=l.length->gRun l i=l.take i:=by
 intro i
 induction i with
 |zero=>intro _;rfl
 |succ i ih=>
  intro hi
  obtain⟨t,ht⟩:∃t,l[i]? =some t:=⟨_,yB (by omega)⟩
  rw[zee ht,ih (by omega),List.take_add_one,ht,zkc]
  ·rfl
  ·intro c hc
   obtain⟨j,hj⟩:=List.mem_iff_getElem?.1 hc
   rw[List.getElem?_take] at hj
   split at hj
   ·exact h j i c t (by assumption) hj ht
   ·cases hj
theorem SdOk.lt {l:List (Rat×Nat)} (h:SdOk l):∀(k i:Nat) (t u:Rat×Nat),i<k->l[i]? =some t->l[k]? =some u->t.2<u.2:=by
 intro k
 induction k with
 |zero=>intro i t u hi;omega
 |succ k ih=>
  intro i t u hi ht hu
  obtain⟨x,hx⟩:∃x,l[k]? =some x:=⟨_,yB (by have:=(List.getElem?_eq_some_iff.1 hu).1;omega)⟩
  have h1:=h.inc k x u hx hu
  rcases Nat.lt_or_ge i k with h2|h2
  ·exact Nat.lt_trans (ih i t x h2 ht hx) h1
  ·obtain rfl:i=k:=by omega
   rw[ht] at hx;injection hx with hx;rw[hx];exact h1
theorem zhr {l:List (Rat×Nat)} (h:SdOk l) {c:Rat} (hc:c≠0) (hs:∀t∈l,sz (t.1*c) 60):MkT (sclL l c)/\mkR (sclL l c)=sclL l c:=by
 have hmem:∀u∈sclL l c,∃t∈l,u=(t.1*c,t.2):=λu hu=>by
  obtain⟨t,ht,e⟩:=List.mem_map.1 hu
  exact⟨t,ht,e.symm⟩
 have hat:∀(i:Nat) (u:Rat×Nat),(sclL l c)[i]? =some u->∃t,l[i]? =some t/\u=(t.1*c,t.2):=λi u hu=>by
  unfold sclL at hu
  rw[List.getElem?_map,Option.map_eq_some_iff] at hu
  obtain⟨t,ht,e⟩:=hu
  exact⟨t,ht,e.symm⟩
 have hlen:(sclL l c).length=l.length:=by simp[sclL]
 have hrun:∀i,i<=(sclL l c).length->gRun (sclL l c) i=(sclL l c).take i:=zpj λi k t u hik ht hu=>by
  obtain⟨x,hx,rfl⟩:=hat i t ht
  obtain⟨y,hy,rfl⟩:=hat k u hu
  have:=h.lt k i x y hik hx hy
  show x.2≠y.2;omega
 have hne:∀u∈sclL l c,u.1≠0:=λu hu=>by
  obtain⟨t,ht,rfl⟩:=hmem u hu
  have h1:=(h.trm t ht).ne
  intro e
  rcases Rat.mul_eq_zero.1 e with e|e
  ·exact h1 e
  ·exact hc e
 have hsz:∀u∈sclL l c,sz u.1 60:=λu hu=>by
  obtain⟨t,ht,rfl⟩:=hmem u hu
  exact hs t ht
 constructor
 ·refine⟨by have:=h.len;omega,hne,λu hu=>(hsz u hu).mono (by omega),λu hu=>?_,λu hu v hv hn=>?_,λi hi x hx=>?_⟩
  ·obtain⟨t,ht,rfl⟩:=hmem u hu
   exact(h.trm t ht).nr
  ·obtain⟨i,hi⟩:=List.mem_iff_getElem?.1 hu
   obtain⟨k,hk⟩:=List.mem_iff_getElem?.1 hv
   obtain⟨x,hx,rfl⟩:=hat i u hi
   obtain⟨y,hy,rfl⟩:=hat k v hk
   refine h.apt k i y x (λe=>?_) hy hx
   subst e
   rw[hx] at hy;injection hy with hy
   exact hn (by rw[hy])
  ·rw[hrun i hi] at hx
   exact(hsz x (List.mem_of_mem_take hx)).mono (by omega)
 ·unfold mkR
  rw[<-zfq,hrun _ (zN _),List.take_length]
  refine List.filter_eq_self.2 λu hu=>?_
  simp[hne u hu]
theorem zpk {l:List (Rat×Nat)} (h:SdOk l) {c:Rat} (hc:c≠0) (hs:∀t∈l,sz (t.1*c) 60):SdOk (sclL l c):=by
 have hat:∀(i:Nat) (u:Rat×Nat),(sclL l c)[i]? =some u->∃t,l[i]? =some t/\u=(t.1*c,t.2):=λi u hu=>by
  unfold sclL at hu
  rw[List.getElem?_map,Option.map_eq_some_iff] at hu
  obtain⟨t,ht,e⟩:=hu
  exact⟨t,ht,e.symm⟩
 refine⟨by simp[sclL];exact h.len,λu hu=>?_,λi t u ht hu=>?_,λi k t u hik ht hu=>?_⟩
 ·obtain⟨t,ht,e⟩:=List.mem_map.1 hu
  subst e
  refine⟨λe=>?_,hs t ht,(h.trm t ht).nr⟩
  rcases Rat.mul_eq_zero.1 e with e|e
  ·exact(h.trm t ht).ne e
  ·exact hc e
 ·obtain⟨x,hx,rfl⟩:=hat i t ht
  obtain⟨y,hy,rfl⟩:=hat _ u hu
  exact h.inc i x y hx hy
 ·obtain⟨x,hx,rfl⟩:=hat i t ht
  obtain⟨y,hy,rfl⟩:=hat k u hu
  exact h.apt i k x y hik hx hy
def sclR (l:List (Rat×Nat)) (c:Rat):List (Rat×Nat):=if c=0 then[] else sclL l c
theorem zh3 (v:Value) (l:List (Rat×Nat)) (c:Rat) (h:SdOk l) (hc:sz c 150) (hs:∀t∈l,sz (t.1*c) 60) (w:zA) (HW:Hid (∀W,qL w W->Wd W)) (HP:Hid (∀W,qL w W->Pw W)) (hv:SdL v l w):
 zC zF 88 #[v,St (numS c)] w λe w'=>∃v',e=.returned (.tuple #[v',.int .i64 0])/\zB w.heap.size w w'/\SdL v' (sclR l c) w':=by
 obtain⟨p1,n1,c1,e1⟩:=hv.any
 refine zhq v (numS c) (λv W=>SdL v (sclL l c) W) (λv W=>SdL v (sclR l c) W) w
  (hid (zbh v l h w (HW.out w (zM _ _)) (HP.out w (zM _ _)) hv))
  (hid λW hW=>zfj c (zd0 (by omega) (by omega) hc) W (HW.out W hW))
  (hid λW hW=>zkb v l c (by have:=h.len;omega) (λt ht=>(h.trm t ht).sc.mono (by omega)) hc W (hid λV hV=>HW.out V (hW.trans (hV.mono hW.size))) (hv.below hW))
  (hid λW v' hW hv'=>?_) p1 n1 c1 e1 (hid λv W h=>h.any) (hid λv W h=>h.any)
 have HW':Hid (∀V,qL W V->Wd V):=hid λV hV=>HW.out V (hW.trans (hV.mono hW.size))
 have HP':Hid (∀V,qL W V->Pw V):=hid λV hV=>HP.out V (hW.trans (hV.mono hW.size))
 have hlen:(sclL l c).length=l.length:=by simp[sclL]
 by_cases e:c=0
 ·have hr:sclR l c=[]:=by unfold sclR;rw[if_pos e]
  rw[hr]
  refine zjg (sclL l c) (by have:=h.len;omega) (λt ht=>?_) (λt ht=>?_) v' W HW' hv'
  ·obtain⟨u,hu,rfl⟩:=List.mem_map.1 ht
   show u.1*c=0
   rw[e,Rat.mul_zero]
  ·obtain⟨u,hu,rfl⟩:=List.mem_map.1 ht
   exact(h.trm u hu).nr
 ·have hr:sclR l c=sclL l c:=by unfold sclR;rw[if_neg e]
  obtain⟨hT,hm⟩:=zhr h e hs
  rw[hr]
  have:=zhh (sclL l c) hT (by rw[hm];intro u hu;obtain⟨t,ht,rfl⟩:=List.mem_map.1 hu;exact hs t ht) (by rw[hm,hlen];exact h.len) (by rw[hm];exact(zpk h e hs).inc) v' W HW' HP' hv'
  rw[hm] at this
  exact this
theorem zqe (v1 v2:Value) (l1 l2:List (Rat×Nat)) (ok1:SdOk l1) (ok2:SdOk l2) (hT:MkT (l1++sclL l2 (-1))) (hF:∀c∈mkR (l1++sclL l2 (-1)),sz c.1 60) (hl:(mkR (l1++sclL l2 (-1))).length<=12) (hi:incR (mkR (l1++sclL l2 (-1)))) (w:zA) (HW:Hid (∀W,qL w W->Wd W)) (HP:Hid (∀W,qL w W->Pw W)) (h1:SdL v1 l1 w) (h2:SdL v2 l2 w):
 zC zF 43 #[v1,v2] w λe w'=>∃v,e=.returned (.tuple #[v,.int .i64 0])/\zB w.heap.size w w'/\SdL v (mkR (l1++sclL l2 (-1))) w':=by
 obtain⟨p1,c1,e1, -⟩:=h1.slice
 obtain⟨p2,c2,e2, -⟩:=h2.slice
 have hlen:(sclL l2 (-1)).length=l2.length:=by simp[sclL]
 subst e1;subst e2
 refine(z5d p1 p2 l1.length l2.length c1 c2 (l1++sclL l2 (-1)).length (mkR (l1++sclL l2 (-1))).length (λq d W=>SdL (.slice q l2.length d) (sclL l2 (-1)) W) (λq d W=>SdL (.slice q (l1++sclL l2 (-1)).length d) (l1++sclL l2 (-1)) W) (λq d W=>SdL (.slice q (mkR (l1++sclL l2 (-1))).length d) (mkR (l1++sclL l2 (-1))) W) w
  (hid (z6g _ _ (λW=>qL w W) (λW W' h h'=>h.trans (h'.mono h.size)) (hid λW hW=>zbh _ l1 ok1 W (HW.out W hW) (HP.out W hW) (h1.below hW)) (hid λW hW=>zbh _ l2 ok2 W (HW.out W hW) (HP.out W hW) (h2.below hW)) w (zM _ _)))
  (hid λW hW=>?_) (hid λW q d b hW hb hR k0 k1=>?_) (hid λW q d hW hv=>?_)).mono λe w' ⟨q,d,e1,hb,hR⟩=>⟨_,e1,hb,hR⟩
 ·have:=zkb _ l2 (-1) (by have:=ok2.len;omega) (λt ht=>(ok2.trm t ht).sc.mono (by omega)) (zb7.2.2.2.2.1.mono (by omega)) W (hid λV hV=>HW.out V (hW.trans (hV.mono hW.size))) (h2.below hW)
  rw[show St (numS (-1))=.string ⟨#[45,49]⟩ by rw[nm_1]] at this
  refine this.mono λe w' ⟨v',e1,hb,hv'⟩=>?_
  obtain⟨q,d,e2, -⟩:=hv'.slice
  rw[hlen] at e2
  subst e2
  exact⟨q,d,e1,hb,hv'⟩
 ·obtain⟨W0,hB0,hR0,hBW⟩:=hR
  refine(zj8 b _ _ l1 (sclL l2 (-1)) (by have:=ok1.len;have:=ok2.len;omega) W (h1.below hW) (hR0.below hBW) k0 k1).mono λe w' ⟨v,e1,hb',hv'⟩=>?_
  obtain⟨q',d',e2, -⟩:=hv'.slice
  subst e2
  exact⟨q',d',e1,hb',hv'⟩
 ·refine(zhh _ hT hF hl hi _ W (hid λV hV=>HW.out V (hW.trans (hV.mono hW.size))) (hid λV hV=>HP.out V (hW.trans (hV.mono hW.size))) hv).mono λe w' ⟨v,e1,hb',hv'⟩=>?_
  obtain⟨q',d',e2, -⟩:=hv'.slice
  subst e2
  exact⟨q',d',e1,hb',hv'⟩
end Go.Proofs.YtccijmidbdapaaaGreatDoor
