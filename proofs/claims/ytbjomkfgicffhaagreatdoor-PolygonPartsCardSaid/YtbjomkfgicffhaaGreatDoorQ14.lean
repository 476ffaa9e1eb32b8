/- rational.Sum. -/
import Derived.Test.YtbjomkfgicffhaaGreatDoorQ11
import Derived.Test.YtbjomkfgicffhaaGreatDoorQ13
import Derived.Test.YtbjomkfgicffhaaGreatDoorRows
import Derived.Test.YtbjomkfgicffhaaGreatDoorQ12
import Derived.ProofKit
import Derived.Lib.LaidU8
import Derived.HandedShaped
import Derived.Lay
import Derived.Shelf.Vars
import Derived.Carry
import Derived.OwnWalkIn
set_option maxRecDepth 100000
set_option maxHeartbeats 8000000
namespace Go.Proofs.YtbjomkfgicffhaaGreatDoor
open Go.RowKit Go.Shelf Lib Str Limb
attribute [local go_sem] Oper.semAt_some
def psum (q:Nat->Rat):Nat->Rat
 |0=>0
 |k+1=>psum q k+q k
def RowNums (p:Option Addr) (n:Nat) (q:Nat->Rat) (W:World):Prop:=∀i,i<n->∃b off,p=some ⟨b,off,none⟩/\W.cell? ⟨b,off+i,none⟩=some (St (numS (q i)))
theorem RowNums.keep {p:Option Addr} {n:Nat} {q:Nat->Rat} {W W':World} (h:RowNums p n q W) (hc:CellsKept W W'):RowNums p n q W':=λi hi=>let ⟨b,off,e,h1⟩:=h i hi;⟨b,off,e,hc.cell h1⟩
theorem zzh (v:Value) (w:World) (p:Option Addr) (n cap:Nat) (hv:v=.slice p n cap):
 Calls Tryz.prog 71 #[v] w λe w'=>e=.returned (.func (.func 111) #[] #[.pointer (some ⟨w.heap.size,0,none⟩)])/\w.alloc (.cells #[v] 66)=w':=by
 subst hv
 go_enter Tryz.func71,Tryz.ntmps71
 go_wp2
 go_ret
 exact⟨rfl,rfl⟩
theorem z1q (m:Nat) (hm:1<=m) (Bs:Nat) (n:Nat) (q:Nat->Rat) (hlen:n<=5000) (Rd:World->Prop) (p:Option Addr) (cap:Nat)
 (A:Hid (∀k,k<n->∀W:World,Wd W->Calls Tryz.prog 11 #[St (numS (psum q k)),St (numS (q k))] W λe w'=>e=.returned (.tuple #[St (numS (psum q (k+1))),.int .i64 0])/\Below W.heap.size W w'))
 (hRd:∀W,Rd W->W.cell? ⟨Bs,0,none⟩=some (.slice p n cap)/\RowNums p n q W/\Wd W):
 IterC Fence.wide m Tryz.prog 111 #[.pointer (some ⟨Bs,0,none⟩)] Rd (λk args=>args= #[St (numS (psum q (k+1))),.int .i64 0]) n:=by
 intro lp J Jx W hJr hJb hY h0
 refine callsIn_of_wp Tryz.func111 rfl trivial ?_ rfl
 simp only[Tryz.ntmps111,List.size_toArray,List.length_cons,List.length_nil,Nat.reduceAdd,Nat.reduceSub,Array.replicate_succ,Array.replicate_zero,List.push_toArray,List.append_toArray,List.nil_append,List.cons_append]
 obtain⟨hb,_,_⟩:=hRd W (hJr 0 W h0)
 have HRd:=hid λk W h=>hRd W (hJr k W h);clear hRd hJr
 have HY:=hid hY;clear hY
 have HJB:=hid hJb;clear hJb
 gi_wp2
 gi_loopw [3,9] (λs i wr=>∃(k:Nat),k<=n/\s=St (numS (psum q k))/\i=.int .i64 (k:Int)/\Hid (J k wr))
  (λ_ i _=>n-(RowKit.intOf i).toNat)
 case atStart=>exact⟨0,Nat.zero_le _,by rw[show psum q 0=0 from rfl,zie],rfl,h0⟩
 case round=>
  clear hb
  obtain⟨k,hk,rfl,rfl,hJ⟩:=hrel
  by_cases hlt:k<n
  ·obtain⟨hb,hc,hwd⟩:=HRd.out k wr hJ.out
   obtain⟨b,off,rfl,c0⟩:=hc k hlt
   have HA:=hid (A.out k hlt wr hwd)
   have HY1:=hid λW h=>HY.out k #[St (numS (psum q (k+1))),.int .i64 0] W h hlt rfl
   clear hc hwd HY HRd A
   generalize numS (psum q k)=x at*
   generalize numS (q k)=y at*
   obtain⟨z,hz⟩:∃z,z=numS (psum q (k+1)):=⟨_,rfl⟩
   rw[<-hz] at HA HY1
   have HZ:=hid hz;clear hz
   gi_wp2
   refine⟨trivial,(callsIn_wide.2 HA.out).mono ?_⟩
   rintro e W2 ⟨rfl,hb2⟩
   obtain⟨fn,tmps,assign,body,hy,hR⟩:=HY1.out W2 (HJB.out k wr W2 hJ.out hb2)
   clear hb2 HA HY1
   gi_wp2
   refine hR.mono ?_
   rintro e W3 (⟨rfl,hJ3⟩|⟨rfl,hJx3⟩)
   ·have HJ3:=hid hJ3;clear hJ3
    gi_wp2
    go_roundw
    case rel=>exact⟨k+1,by omega,by rw[HZ.out],by go_num,HJ3.out⟩
    case measure=>simp[RowKit.intOf];omega
   ·have HJx3:=hid hJx3;clear hJx3
    gi_wp2
    refine bodyPost_ret (results_none rfl _ _ _) rfl ?_
    exact⟨⟨_,rfl⟩,.inr HJx3.out⟩
  ·obtain rfl:k=n:=by omega
   gi_wp2
   go_end0
   exact⟨⟨_,rfl⟩,.inl hJ.out⟩
structure SumS (w:World) (p:Option Addr) (n:Nat) (q:Nat->Rat) (W:World):Prop where
 bel:Below w.heap.size w W
 r1:W.cell? ⟨w.heap.size,0,none⟩=some (St [])
 f1:W.frozen? ⟨w.heap.size,0,none⟩=false
 r2:W.cell? ⟨w.heap.size+1,0,none⟩=some (.int .i64 0)
 f2:W.frozen? ⟨w.heap.size+1,0,none⟩=false
 nums:∀i,i<n->∃b off,p=some ⟨b,off,none⟩/\b<w.heap.size/\W.cell? ⟨b,off+i,none⟩=some (St (numS (q i)))
theorem SumS.keep {w:World} {p:Option Addr} {n:Nat} {q:Nat->Rat} {W W':World} (h:SumS w p n q W) (hc:CellsKept W W') (hb:Below w.heap.size W W'):SumS w p n q W':=
 ⟨h.bel.trans hb,hc.cell h.r1,hc.frozen h.r1 h.f1,hc.cell h.r2,hc.frozen h.r2 h.f2,λi hi=>let ⟨b,off,e,h0,h1⟩:=h.nums i hi;⟨b,off,e,h0,hc.cell h1⟩⟩
theorem SumS.row {w:World} {p:Option Addr} {n:Nat} {q:Nat->Rat} {W:World} (h:SumS w p n q W):RowNums p n q W:=λi hi=>let ⟨b,off,e,_,h1⟩:=h.nums i hi;⟨b,off,e,h1⟩
theorem SumS.put {w:World} {p:Option Addr} {n:Nat} {q:Nat->Rat} {W:World} (h:SumS w p n q W) {b0:Nat} (hb:w.heap.size+1<b0) (v:Value):SumS w p n q (W.setCell ⟨b0,0,none⟩ v):=
 ⟨h.bel.setCell (by simp;omega) _,by rw[zau _ _ _ _ (by omega)];exact h.r1,by rw[World.frozen?_setCell];exact h.f1,by rw[zau _ _ _ _ (by omega)];exact h.r2,by rw[World.frozen?_setCell];exact h.f2,
  λi hi=>let ⟨b,off,e,h0,h1⟩:=h.nums i hi;⟨b,off,e,h0,by rw[zau _ _ _ _ (by omega)];exact h1⟩⟩
theorem zzi (p:Option Addr) (cap n:Nat) (q:Nat->Rat) (hlen:n<=4096)
 (C:Hid (∀k,k<n->∀W:World,Wd W->Calls Tryz.prog 70 #[St (numS (q k))] W λe w'=>e=.returned (.int .i64 0)/\Below W.heap.size W w'))
 (A:Hid (∀k,k<n->∀W:World,Wd W->Calls Tryz.prog 11 #[St (numS (psum q k)),St (numS (q k))] W λe w'=>e=.returned (.tuple #[St (numS (psum q (k+1))),.int .i64 0])/\Below W.heap.size W w'))
 (w:World) (HW:Hid (Wd w)) (HP:Hid (RowNums p n q w)):
 Calls Tryz.prog 37 #[.slice p n cap] w λe w'=>e=.returned (.tuple #[St (numS (psum q n)),.int .i64 0])/\Below w.heap.size w w':=by
 refine(callsIn_wide (n:=3)).1 ?_
 refine callsIn_of_wp_marks Tryz.func37 rfl trivial ?_ rfl
 simp only[Tryz.ntmps37,List.size_toArray,List.length_cons,List.length_nil,Nat.reduceAdd,Nat.reduceSub,Array.replicate_succ,Array.replicate_zero,List.push_toArray,List.append_toArray,List.nil_append,List.cons_append]
 have hS0:SumS w p n q ((w.alloc (.cells #[St []] 22)).alloc (.cells #[.int .i64 0] 28)):=by
  have b1:=Boxed.new w 22 (St [])
  have b2:=Boxed.new (w.alloc (.cells #[St []] 22)) 28 (.int .i64 0)
  have b12:=b1.alloc (.cells #[.int .i64 0] 28)
  simp only[World.size_alloc] at b2
  have hbel:Below w.heap.size w ((w.alloc (.cells #[St []] 22)).alloc (.cells #[.int .i64 0] 28)):=((Below.refl _ w).alloc (Nat.le_refl _) _).alloc (by simp) _
  exact⟨hbel,b12.cell,b12.frozen,b2.cell,b2.frozen,λi hi=>let ⟨b,off,e,h1⟩:=HP.out i hi;⟨b,off,e,zbe h1,(zac hbel).cell h1⟩⟩
 have HS0:=hid hS0;clear hS0 HP
 have hn1:decide ((4096:Int)<(n:Int))=false:=decide_eq_false (by omega)
 gi_wp2
 gi_loopw [15] (λi wr=>∃(k:Nat),k<=n/\i=.int .i64 (k:Int)/\Hid (SumS w p n q wr))
  (λi _=>n-(RowKit.intOf i).toNat)
 case atStart=>exact⟨0,Nat.zero_le _,rfl,HS0.out⟩
 case round=>
  clear hn1
  obtain⟨k,hk,rfl,hS⟩:=hrel
  by_cases hlt:k<n
  ·obtain⟨b,off,rfl,_,c0⟩:=hS.out.nums k hlt
   have HC:=hid (C.out k hlt wr (HW.out.below hS.out.bel))
   generalize numS (q k)=x at c0 HC
   gi_wp2
   refine⟨trivial,(callsIn_wide.2 HC.out).mono ?_⟩
   rintro e W2 ⟨rfl,hb2⟩
   have hS2:=hid (hS.out.keep (zac hb2) (hb2.mono hS.out.bel.size))
   clear hb2 HC hS HS0
   gi_wp2
   go_roundw
   case rel=>exact⟨k+1,by omega,by go_num,hS2⟩
   case measure=>simp[RowKit.intOf];omega
  ·obtain rfl:k=n:=by omega
   clear HS0
   gi_wp2_with (refine⟨trivial,?_⟩;gi_at_call 71;refine(callsIn_wide.2 (zzh _ _ _ _ _ rfl)).mono ?_;rintro e w' ⟨rfl,rfl⟩)
   obtain⟨W1,hW1⟩:∃W1,W1=(wr.alloc (.cells #[.string ⟨#[48]⟩] 22)).alloc (.cells #[.slice p k cap] 66):=⟨_,rfl⟩
   have hb1:Below wr.heap.size wr W1:=by rw[hW1];exact((Below.refl _ wr).alloc (Nat.le_refl _) _).alloc (by simp) _
   have hcb:W1.cell? ⟨wr.heap.size+1,0,none⟩=some (.slice p k cap):=by
    have:=(Boxed.new (wr.alloc (.cells #[.string ⟨#[48]⟩] 22)) 66 (.slice p k cap)).cell
    rw[World.size_alloc] at this;rw[hW1];exact this
   have hob:=(Boxed.new wr 22 (.string ⟨#[48]⟩)).alloc (.cells #[.slice p k cap] 66)
   rw[<-hW1] at hob
   have ho1:=hob.cell;have ho2:=hob.frozen
   have hS1:=hS.out.keep (zac hb1) (hb1.mono hS.out.bel.size)
   have hwz:w.heap.size+1<wr.heap.size:=zbe hS.out.r2
   rw[<-hW1]
   clear hW1 hS hob
   have HS1:=hid hS1.bel.size
   have hseq:=z1q 2 (by omega) (wr.heap.size+1) k q (by omega) (λW=>SumS w p k q W/\W.cell? ⟨wr.heap.size+1,0,none⟩=some (.slice p k cap)) p cap A (λW h=>⟨h.2,h.1.row,HW.out.below h.1.bel⟩)
   refine zfq (n:=3) (B:=w.heap.size) rfl (by omega) rfl trivial (enters_of Tryz.func111 (by kernel_rfl) rfl) hseq (λk args h=>by subst h;rfl) hS1.bel.size
    (λj W=>SumS w p k q W/\W.cell? ⟨wr.heap.size+1,0,none⟩=some (.slice p k cap)/\W.cell? ⟨wr.heap.size,0,none⟩=some (St (numS (psum q j)))/\W.frozen? ⟨wr.heap.size,0,none⟩=false)
    (λc _ W=>False)
    (λj X Y h hc hb=>⟨h.1.keep hc hb,hc.cell h.2.1,hc.cell h.2.2.1,hc.frozen h.2.2.1 h.2.2.2⟩) (λc j X Y h hc hb=>h) (λj W h=>⟨h.1,h.2.1⟩) ⟨hS1,hcb,by rw[show psum q 0=0 from rfl,zie];exact ho1,ho2⟩
    (λj _ a' W=>a'={tmps:= #[Value.slice p k cap,undef,Value.pointer (some {block:=w.heap.size,off:=0}),Value.pointer (some {block:=w.heap.size+1,off:=0}),undef,u5,u6,Value.pointer (some {block:=wr.heap.size,off:=0}),St (numS (psum q (j+1))),.int .i64 0,Value.slice p k cap,Value.int IntKind.i64 ↑k,Value.bool false,Value.slice p k cap,Value.int IntKind.i64 ↑k,Value.int IntKind.i64 ↑k,Value.bool false,u17,u18,u19,u20,u21,u22,u23,u24,Value.slice p k cap,Value.func (Fn.func 111) #[] #[Value.pointer (some {block:=wr.heap.size+1,off:=0})],St (numS (psum q (j+1))),.int .i64 0,undef,undef,undef,undef,undef],defers:=[]})
    (λj _ a' X Y h hc hb=>h) ?assign ?body ?done ?stop
   case assign=>
    rintro lp j args W K hlp hrec hI hj rfl hK
    have HK:=hid hK;clear hK
    gi_wp2
    exact HK.out _ _ (KeepsFrom.refl _ _) hI rfl
   case body=>
    rintro lp j args a' W hlp ⟨r,hr⟩ ⟨hS,hcb,ho1,ho2⟩ hj rfl rfl
    have H0:=hid (⟨hS,hcb,ho1,ho2⟩:SumS w p k q W/\W.cell? ⟨wr.heap.size+1,0,none⟩=some (.slice p k cap)/\W.cell? ⟨wr.heap.size,0,none⟩=some (St (numS (psum q j)))/\W.frozen? ⟨wr.heap.size,0,none⟩=false)
    clear hS hcb hseq hS1 hr
    gi_wp2
    obtain⟨hS,hcb,ho1,ho2⟩:=H0.out
    refine⟨(KeepsOthers.setCell _ _ _).from _,hS.put hwz _,by rw[zau _ _ _ _ (by omega)];exact hcb,za9 ho1,by rw[World.frozen?_setCell];exact ho2⟩
   case done=>
    rintro D W hD ⟨hS,hcb,ho1,ho2⟩ hK
    have hr1:=hS.r1;have hf1:=hS.f1;have hr2:=hS.r2;have hf2:=hS.f2
    have HX:=hid (⟨hS.bel,hK⟩:Below w.heap.size w W/\W.heap[D]? =some (.deferred (some [])));clear hS hcb hseq hS1 hK
    gi_wp2
    obtain⟨hbel,hK⟩:=HX.out
    have hK1:=(KeepsOthers.setCell W ⟨w.heap.size,0,none⟩ (St (numS (psum q k)))).same D _ hK rfl
    have hK':=(KeepsOthers.setCell (W.setCell ⟨w.heap.size,0,none⟩ (St (numS (psum q k)))) ⟨w.heap.size+1,0,none⟩ (.int .i64 0)).same D _ hK1 rfl
    refine⟨by simp,.inl ⟨_,_,rfl,run_takeDeferred hK',?_⟩⟩
    have c1:=za9 (u:=St (numS (psum q k))) hr1
    have c2:(W.setCell ⟨w.heap.size,0,none⟩ (St (numS (psum q k)))).cell? ⟨w.heap.size+1,0,none⟩=some (.int .i64 0):=by rw[zau _ _ _ _ (by omega)];exact hr2
    have c3:=za9 (u:=.int .i64 0) c2
    have c4:((W.setCell ⟨w.heap.size,0,none⟩ (St (numS (psum q k)))).setCell ⟨w.heap.size+1,0,none⟩ (.int .i64 0)).cell? ⟨w.heap.size,0,none⟩=some (St (numS (psum q k))):=by rw[zau _ _ _ _ (by omega)];exact c1
    have e1:=(zbk hK').cell c4
    have e2:=(zbk hK').cell c3
    refine⟨.tuple #[St (numS (psum q k)),.int .i64 0],?_,⟨rfl,zby ((hbel.setCell (p:=⟨w.heap.size,0,none⟩) (by simp) _).setCell (p:=⟨w.heap.size+1,0,none⟩) (by simp) _) (by have:=HS1.out;omega) hK'⟩⟩
    simp[results,Tryz.f37,go_sem,e1,e2]
   case stop=>
    rintro D c j W hD h hK
    exact h.elim
theorem z23 (p:Option Addr) (cap n:Nat) (q:Nat->Rat) (hlen:n<=4096) (hs:∀k,k<n->∃i j,0<i/\0<j/\i+j<300/\sz (psum q k) i/\sz (q k) j) (w:World) (hw:Wd w) (hp:RowNums p n q w):
 Calls Tryz.prog 37 #[.slice p n cap] w λe w'=>e=.returned (.tuple #[St (numS (psum q n)),.int .i64 0])/\Below w.heap.size w w':=
 zzi p cap n q hlen
  (hid λk hk W hW=>let ⟨i,j,hi,hj,hij,_,h2⟩:=hs k hk;zfj (q k) (zd0 hj (by omega) h2) W hW)
  (hid λk hk W hW=>let ⟨i,j,hi,hj,hij,h1,h2⟩:=hs k hk;zje (psum q k) (q k) i j hi hj hij h1 h2 W hW) w (hid hw) (hid hp)
theorem zma (q:Rat) (h:0<=q.num) (w:World):
 Calls Tryz.prog 211 #[St (numS q)] w λe w'=>e=.returned (.bool false)/\w'=w:=by
 have hp:Lib.hasPrefix (numS q) [45]=false:=by
  obtain⟨c,r,e,hc,_⟩:=dec_head q.num.natAbs
  have e1:itoa q.num=decDigits q.num.natAbs:=by
   rcases zbg q.num with⟨_,e⟩|⟨h',_⟩
   ·exact e
   ·omega
  have hc5:c≠45:=λh=>by subst h;simp at hc
  unfold numS
  rw[e1,e]
  simp[Lib.hasPrefix,List.isPrefixOf,Ne.symm hc5]
 have hc:=Tryz.strings_HasPrefix ⟨(numS q).toArray⟩ ⟨#[45]⟩ w
 rw[show(⟨(numS q).toArray⟩:ByteArray).data.toList=numS q from rfl,show(⟨#[45]⟩:ByteArray).data.toList=[45] from rfl,hp] at hc
 show Calls _ _ #[.string ⟨(numS q).toArray⟩] _ _
 generalize (⟨(numS q).toArray⟩:ByteArray)=u at*
 have HC:=hid hc;clear hc hp
 go_enter Tryz.func211,Tryz.ntmps211
 go_wp2_with fail
 refine HC.out.mono ?_
 rintro e w' ⟨rfl,rfl⟩
 go_wp2_with fail
 go_ret
 exact⟨rfl,rfl⟩
theorem zk7 (n:Nat) (hl:(decDigits n).length<=17) (w:World) (_:Wd w):
 Calls Tryz.prog 164 #[St (decDigits n)] w λe w'=>e=.returned (.tuple #[I n,.bool true])/\Below w.heap.size w w':=by
 have hc:=znc (n:Int) (by rw[Str.zad];omega) w
 rw[Str.zad] at hc
 have hsz:¬(17:Int)<(⟨(decDigits n).toArray⟩:ByteArray).size:=by
  have:(⟨(decDigits n).toArray⟩:ByteArray).size=(decDigits n).length:=by show(decDigits n).toArray.size=_;simp
  omega
 show Calls _ _ #[.string ⟨(decDigits n).toArray⟩] _ _
 generalize (⟨(decDigits n).toArray⟩:ByteArray)=u at*
 have HC:=hid hc;clear hc hl
 go_enter Tryz.func164,Tryz.ntmps164
 go_wp2_with fail
 refine HC.out.mono ?_
 rintro e w1 ⟨rfl,hb⟩
 go_wp2_with fail
 (refine wp_region_quiet_lit (by kernel_rfl) (by kernel_rfl) (WQ.out ?_);(repeat(first|(apply WQ.read (by rfl);(focus(rintro W ⟨n,rfl⟩;go_simp;try with_reducible rfl));try simp only[Act.put,zzA,zzB,zzC])|(apply WQ.skip (by rfl);try simp only[Act.put,zzA,zzB,zzC])));refine WQ.nil ?_;rintro _ ⟨nq,rfl⟩)
 go_wp2_with fail
 go_ret2
 exact⟨rfl,zao hb nq⟩
structure PairS (w:World) (u v:List UInt8) (pb:Nat) (W:World):Prop where
 bel:Below w.heap.size w W
 lt:pb<W.heap.size
 hp:W.heap[pb]? =some (.cells #[St u,St v] 201 (0,0))
theorem PairS.next {w:World} {u v:List UInt8} {pb:Nat} {W W':World} (h:PairS w u v pb W) (hb:Below W.heap.size W W'):PairS w u v pb W':=
 ⟨h.bel.trans (hb.mono h.bel.size),Nat.lt_of_lt_of_le h.lt hb.size,(hb.block _ h.lt).trans h.hp⟩
theorem PairS.c0 {w:World} {u v:List UInt8} {pb:Nat} {W:World} (h:PairS w u v pb W):W.cell? ⟨pb,0,none⟩=some (St u):=by rw[Go.Joins.cell_of_block h.hp];rfl
theorem PairS.c1 {w:World} {u v:List UInt8} {pb:Nat} {W:World} (h:PairS w u v pb W):W.cell? ⟨pb,1,none⟩=some (St v):=by rw[Go.Joins.cell_of_block h.hp];rfl
theorem zji (p1 p2:Option Addr) (cap1 cap2 n1 n2:Nat) (q1 q2:Nat->Rat) (h1:n1<=100) (h2:n2<=100)
 (C:Hid (∀k,k<n1->∀W:World,Wd W->Calls Tryz.prog 70 #[St (numS (q1 k))] W λe w'=>e=.returned (.int .i64 0)/\Below W.heap.size W w'))
 (O:Hid (∀k,k<n1->∀W:World,Wd W->Calls Tryz.prog 163 #[St (numS (q1 k))] W λe w'=>e=.returned (.agg #[St (itoa (q1 k).num),St (decDigits (q1 k).den)])/\Below W.heap.size W w'))
 (Z:Hid (∀k,k<n1->digs (q1 k).num<=90/\(decDigits (q1 k).den).length<=90))
 (N:Hid (∀k,k<n2->∀W:World,Calls Tryz.prog 211 #[St (numS (q2 k))] W λe w'=>e=.returned (.bool false)/\w'=W))
 (w:World) (HW:Hid (Wd w)) (HP1:Hid (RowNums p1 n1 q1 w)) (HP2:Hid (RowNums p2 n2 q2 w)):
 Calls Tryz.prog 162 #[.slice p1 n1 cap1,.slice p2 n2 cap2] w λe w'=>e=.returned (.int .i64 0)/\Below w.heap.size w w':=by
 go_enter Tryz.func162,Tryz.ntmps162
 go_wp2_with fail
 go_loopw [13] (λi wr=>∃(k:Nat),k<=n1/\i=.int .i64 (k:Int)/\Hid (Below w.heap.size w wr))
  (λi _=>n1-(RowKit.intOf i).toNat)
 case atStart=>exact⟨0,Nat.zero_le _,rfl,Below.refl _ _⟩
 case round=>
  obtain⟨k,hk,rfl,hB⟩:=hrel
  by_cases hlt:k<n1
  ·obtain⟨b,off,rfl,c0⟩:=(HP1.out.keep (zac (hB.out.mono (Nat.le_refl _)))) k hlt
   have HC:=hid (C.out k hlt);have HO:=hid (O.out k hlt)
   obtain⟨z1,z2⟩:=Z.out k hlt
   obtain⟨t,ht⟩:∃t:ByteArray,t=⟨(trimPrefix (⟨(itoa (q1 k).num).toArray⟩:ByteArray).data.toList (⟨#[45]⟩:ByteArray).data.toList).toArray⟩:=⟨_,rfl⟩
   have hts:t.size<=90:=by
    rw[ht];show(trimPrefix (itoa (q1 k).num) [45]).toArray.size<=90
    rw[zbi];simpa [digs] using z1
   have hvs:(⟨(decDigits (q1 k).den).toArray⟩:ByteArray).size<=90:=by show(decDigits (q1 k).den).toArray.size<=90;simpa using z2
   have hmx:max (t.size:Int) ((decDigits (q1 k).den).length:Int)<=90:=by omega
   have HT0:=hid ht
   clear ht z1 z2
   generalize numS (q1 k)=x at*
   generalize itoa (q1 k).num=u at*
   generalize decDigits (q1 k).den=v at*
   have HT:Hid (Value.string ⟨(trimPrefix (⟨u.toArray⟩:ByteArray).data.toList (⟨#[45]⟩:ByteArray).data.toList).toArray⟩=.string t):=hid (by rw[HT0.out])
   clear HT0
   go_wp2_with fail
   refine(HC.out wr (HW.out.below hB.out)).mono ?_
   rintro e w2 ⟨rfl,hb2⟩
   have hB2:=hid (hB.out.trans (hb2.mono hB.out.size));clear hb2
   go_wp2_with fail
   refine(HO.out w2 (HW.out.below hB2.out)).mono ?_
   rintro e w3 ⟨rfl,hb3⟩
   have hB3:=hid (hB2.out.trans (hb3.mono hB2.out.size));clear hb3 hB2 hB
   go_wp2_with fail
   obtain⟨w4,hw4⟩:∃w4,w4=w3.alloc (.cells #[St u,St v] 201):=⟨_,rfl⟩
   rw[<-hw4]
   obtain⟨pb,hpb⟩:∃pb,pb=w3.heap.size:=⟨_,rfl⟩
   have HP5:Hid (PairS w u v pb w4):=by
    have ha:Below w3.heap.size w3 w4:=by rw[hw4];exact(Below.refl _ w3).alloc (Nat.le_refl _) _
    exact hid ⟨hB3.out.trans (ha.mono hB3.out.size),by rw[hw4,hpb];simp,by rw[hw4,hpb];exact World.alloc_heap_new w3 _⟩
   rw[<-hpb]
   clear hw4 hB3 hpb
   refine zbl (λ_ W=>PairS w u v pb W) (by kernel_rfl) (by kernel_rfl) (by have h:=HP5.out;exact h.next (Below.refl _ _).drew) ?_
   refine zab (v:=.pointer (some ⟨pb,0,none⟩)) (by rfl) (λf W' h=>h) (λf W' hf h=>by go_simp) ?_
   try simp only[Act.put,zzA,zzB,zzC]
   refine zab (v:=St u) (by rfl) (λf W' h=>h) (λf W' hf h=>by have h0:=h.c0;go_simp) ?_
   try simp only[Act.put,zzA,zzB,zzC]
   refine zar (.string t) (by rfl) (λf W' hf h C' hC'=>by
    go_simp
    refine(Tryz.strings_TrimPrefix _ _ _).mono ?_
    rintro e w' ⟨rfl,hw1⟩
    have hw2:=hw1.symm;subst hw2
    refine⟨?_,hC' _ h⟩
    rw[HT.out]) ?_
   try simp only[Act.put,zzA,zzB,zzC]
   refine zab (v:=.int .i64 t.size) (by rfl) (λf W' h=>h) (λf W' hf h=>by go_simp) ?_
   try simp only[Act.put,zzA,zzB,zzC]
   refine zab (v:=.pointer (some ⟨pb,1,none⟩)) (by rfl) (λf W' h=>h) (λf W' hf h=>by go_simp) ?_
   try simp only[Act.put,zzA,zzB,zzC]
   refine zab (v:=St v) (by rfl) (λf W' h=>h) (λf W' hf h=>by have h0:=h.c1;go_simp) ?_
   try simp only[Act.put,zzA,zzB,zzC]
   refine zab (v:=.int .i64 (⟨v.toArray⟩:ByteArray).size) (by rfl) (λf W' h=>h) (λf W' hf h=>by go_simp) ?_
   try simp only[Act.put,zzA,zzB,zzC]
   refine zab (v:=.int .i64 (max (t.size:Int) ((⟨v.toArray⟩:ByteArray).size:Int))) (by rfl) (λf W' h=>h) (λf W' hf h=>by go_simp) ?_
   try simp only[Act.put,zzA,zzB,zzC]
   refine zab (v:=.bool false) (by rfl) (λf W' h=>h) (λf W' hf h=>by go_simp) ?_
   try simp only[Act.put,zzA,zzB,zzC]
   refine zck λf W4 hf h=>?_
   have hB4:=hid h.bel
   clear h hf f HP5
   go_wp2_with fail
   go_roundw
   case rel=>exact⟨k+1,by omega,by go_num,hB4⟩
   case measure=>simp[RowKit.intOf];omega
  ·clear hk
   go_wp2_with fail
   clear HP1 C O Z
   go_loopw [36] (λi wr=>∃(k:Nat),k<=n2/\i=.int .i64 (k:Int)/\Hid (Below w.heap.size w wr))
    (λi _=>n2-(RowKit.intOf i).toNat)
   case atStart=>exact⟨0,Nat.zero_le _,rfl,hB⟩
   case round=>
    clear hB
    obtain⟨j,hj,rfl,hB⟩:=hrel
    by_cases hlt2:j<n2
    ·obtain⟨b,off,rfl,c0⟩:=(HP2.out.keep (zac (hB.out.mono (Nat.le_refl _)))) j hlt2
     have HN:=hid (N.out j hlt2)
     generalize numS (q2 j)=x at*
     go_wp2_with fail
     refine(HN.out _).mono ?_
     rintro e w2 ⟨rfl,hw1⟩
     have hw2:=hw1.symm;subst hw2;clear hw1
     go_wp2_with fail
     go_roundw
     case rel=>exact⟨j+1,by omega,by go_num,hB⟩
     case measure=>simp[RowKit.intOf];omega
    ·go_wp2_with fail
     go_ret
     exact⟨rfl,hB.out⟩
def prL:List Nat:=[2,3,5,7,11,13,17,19,23,29,31,37,41,43,47,53,59,61,67,71,73,79,83,89,97]
def prN (i:Nat):Nat:=prL.getD i 0
def prS (i:Nat):List UInt8:=([[50],[51],[53],[55],[49,49],[49,51],[49,55],[49,57],[50,51],[50,57],[51,49],[51,55],[52,49],[52,51],[52,55],[53,51],[53,57],[54,49],[54,55],[55,49],[55,51],[55,57],[56,51],[56,57],[57,55]]:List (List UInt8)).getD i []
def prV:Array Value:= #[.string ⟨#[50]⟩,.string ⟨#[51]⟩,.string ⟨#[53]⟩,.string ⟨#[55]⟩,.string ⟨#[49,49]⟩,.string ⟨#[49,51]⟩,.string ⟨#[49,55]⟩,.string ⟨#[49,57]⟩,.string ⟨#[50,51]⟩,.string ⟨#[50,57]⟩,.string ⟨#[51,49]⟩,.string ⟨#[51,55]⟩,.string ⟨#[52,49]⟩,.string ⟨#[52,51]⟩,.string ⟨#[52,55]⟩,.string ⟨#[53,51]⟩,.string ⟨#[53,57]⟩,.string ⟨#[54,49]⟩,.string ⟨#[54,55]⟩,.string ⟨#[55,49]⟩,.string ⟨#[55,51]⟩,.string ⟨#[55,57]⟩,.string ⟨#[56,51]⟩,.string ⟨#[56,57]⟩,.string ⟨#[57,55]⟩]
theorem z1r:∀i,i<25->prS i=decDigits (prN i)
 |0,_=>by show[50]=decDigits 2;rw[zae (by omega)];rfl
 |1,_=>by show[51]=decDigits 3;rw[zae (by omega)];rfl
 |2,_=>by show[53]=decDigits 5;rw[zae (by omega)];rfl
 |3,_=>by show[55]=decDigits 7;rw[zae (by omega)];rfl
 |4,_=>by show[49,49]=decDigits 11;rw[zav (by omega),zae (by omega)];rfl
 |5,_=>by show[49,51]=decDigits 13;rw[zav (by omega),zae (by omega)];rfl
 |6,_=>by show[49,55]=decDigits 17;rw[zav (by omega),zae (by omega)];rfl
 |7,_=>by show[49,57]=decDigits 19;rw[zav (by omega),zae (by omega)];rfl
 |8,_=>by show[50,51]=decDigits 23;rw[zav (by omega),zae (by omega)];rfl
 |9,_=>by show[50,57]=decDigits 29;rw[zav (by omega),zae (by omega)];rfl
 |10,_=>by show[51,49]=decDigits 31;rw[zav (by omega),zae (by omega)];rfl
 |11,_=>by show[51,55]=decDigits 37;rw[zav (by omega),zae (by omega)];rfl
 |12,_=>by show[52,49]=decDigits 41;rw[zav (by omega),zae (by omega)];rfl
 |13,_=>by show[52,51]=decDigits 43;rw[zav (by omega),zae (by omega)];rfl
 |14,_=>by show[52,55]=decDigits 47;rw[zav (by omega),zae (by omega)];rfl
 |15,_=>by show[53,51]=decDigits 53;rw[zav (by omega),zae (by omega)];rfl
 |16,_=>by show[53,57]=decDigits 59;rw[zav (by omega),zae (by omega)];rfl
 |17,_=>by show[54,49]=decDigits 61;rw[zav (by omega),zae (by omega)];rfl
 |18,_=>by show[54,55]=decDigits 67;rw[zav (by omega),zae (by omega)];rfl
 |19,_=>by show[55,49]=decDigits 71;rw[zav (by omega),zae (by omega)];rfl
 |20,_=>by show[55,51]=decDigits 73;rw[zav (by omega),zae (by omega)];rfl
 |21,_=>by show[55,57]=decDigits 79;rw[zav (by omega),zae (by omega)];rfl
 |22,_=>by show[56,51]=decDigits 83;rw[zav (by omega),zae (by omega)];rfl
 |23,_=>by show[56,57]=decDigits 89;rw[zav (by omega),zae (by omega)];rfl
 |24,_=>by show[57,55]=decDigits 97;rw[zav (by omega),zae (by omega)];rfl
 |n+25,h=>absurd h (by omega)
theorem zw4:∀i,i<25->2<=prN i/\prN i<=97:=by decide
theorem z25 (i:Nat) (hi:i<25) (w:World):(Instr.index 249 (.agg prV) (.int .i64 (i:Int))).run Tryz.prog w=.ok (St (prS i)) w:=
 match i,hi with
 |0,_=>by kernel_rfl
 |1,_=>by kernel_rfl
 |2,_=>by kernel_rfl
 |3,_=>by kernel_rfl
 |4,_=>by kernel_rfl
 |5,_=>by kernel_rfl
 |6,_=>by kernel_rfl
 |7,_=>by kernel_rfl
 |8,_=>by kernel_rfl
 |9,_=>by kernel_rfl
 |10,_=>by kernel_rfl
 |11,_=>by kernel_rfl
 |12,_=>by kernel_rfl
 |13,_=>by kernel_rfl
 |14,_=>by kernel_rfl
 |15,_=>by kernel_rfl
 |16,_=>by kernel_rfl
 |17,_=>by kernel_rfl
 |18,_=>by kernel_rfl
 |19,_=>by kernel_rfl
 |20,_=>by kernel_rfl
 |21,_=>by kernel_rfl
 |22,_=>by kernel_rfl
 |23,_=>by kernel_rfl
 |24,_=>by kernel_rfl
 |n+25,h=>absurd h (by omega)
structure Pw (w:World):Prop where
 prim:w.var? Tryz.prog "kingpost/root.primes" =some prV
theorem Pw.below {w w':World} (h:Pw w) (hb:Below w.heap.size w w'):Pw w':=by
 have hg:Tryz.prog.globalNamed "kingpost/root.primes" =some 1:=by kernel_rfl
 exact⟨var?_below hb hg (zv5 hg h.prim) h.prim⟩
theorem Pw.cell {w:World} (h:Pw w) (i:Nat):w.cell? ⟨1,i,none⟩=prV[i]? :=by
 have hg:Tryz.prog.globalNamed "kingpost/root.primes" =some 1:=by kernel_rfl
 exact World.var?_cell hg h.prim i
theorem Pw.block {w:World} (h:Pw w):∃t fz,w.heap[1]? =some (.cells prV t fz):=by
 have hg:Tryz.prog.globalNamed "kingpost/root.primes" =some 1:=by kernel_rfl
 have hv:=h.prim
 unfold World.var? at hv
 rw[hg] at hv
 simp only[Option.bind_some] at hv
 cases hb:w.heap[(1:Nat)]? with
 |none=>rw[hb] at hv;cases hv
 |some x=>
  rw[hb] at hv
  cases x with
  |cells cs t fz=>simp at hv;subst hv;exact⟨t,fz,rfl⟩
  |_=>cases hv
theorem z26 (n:Nat) (hn:n<=60000) (w:World) (hw:Wd w):
 Calls Tryz.prog 7 #[I n,.int .i64 1] w λe w'=>e=.returned (.tuple #[St (decDigits n),.int .i64 0])/\Below w.heap.size w w':=by
 have hc:=zb3 (n:Int) (by omega) (by omega) w hw
 rw[Str.zad] at hc
 have HC:=hid hc;clear hc
 go_enter Tryz.func7,Tryz.ntmps7
 go_wp2_with fail
 refine HC.out.mono ?_
 rintro e w1 ⟨rfl,hb⟩
 go_wp2_with fail
 go_ret2
 exact⟨rfl,hb⟩
theorem zjj (w:World):Calls Tryz.prog 212 #[.int .i64 1] w λe w'=>e=.returned (.int .i64 1)/\w'=w:=by
 go_enter Tryz.func212,Tryz.ntmps212
 go_wp2_with fail
 go_ret
 exact⟨rfl,rfl⟩
theorem z1s {c l p:Nat} (hp:p*p∣l):(c*p)*(c*p)*(l/(p*p))=c*c*l:=by
 obtain⟨k,rfl⟩:=hp
 by_cases h:p*p=0
 ·rw[h];simp
 ·rw[Nat.mul_div_cancel_left _ (by omega)]
  simp only[Nat.mul_left_comm,Nat.mul_comm]
theorem znr (r:Nat) (hr:0<r) (hr2:r<=200) (H1:Hid (∀c l:Nat,c*c*l=r*r->(∀i,i<25->¬prN i*prN i∣l)->c=r/\l=1))
 (AT:Hid (∀i,i<25->∀W:World,Calls Tryz.prog 105 #[St (prS i)] W λe w'=>e=.returned (.tuple #[I (prN i),.nilIface])/\Below W.heap.size W w'))
 (w:World) (HW:Hid (Wd w)) (HP:Hid (Pw w)):
 Calls Tryz.prog 165 #[I (r*r:Nat),.int .i64 1] w λe w'=>e=.returned (.tuple #[St (decDigits r),St [49]])/\Below w.heap.size w w':=by
 have hm:r*r<=200*200:=Nat.mul_le_mul hr2 hr2
 obtain⟨N,hN⟩:∃N,N=r*r:=⟨_,rfl⟩
 have hN0:0<N:=by rw[hN];exact Nat.mul_pos hr hr
 have hN9:N<=40000:=by rw[hN];omega
 obtain⟨tt,fz,hblk⟩:=HP.out.block
 rw[<-hN] at H1⊢
 have HN:=hid hN;clear hN hm
 have hwm:IntKind.i64.wrap ((N:Int)*1)=N:=by rw[Int.mul_one];exact IntWalk.i64_in _ (by omega)
 go_enter Tryz.func165,Tryz.ntmps165
 go_wp2_with (refine wpList_load_row rfl 249 (.global 1) rfl 1 rfl tt prV fz (.array 25 9) hblk (by kernel_rfl) rfl (by kernel_rfl) ?_)
 have hB0:=Below.refl w.heap.size w
 go_loopw [6,7,19] (λc lf i wr=>∃k cN lN:Nat,k<=25/\c=I cN/\lf=I lN/\i=.int .i64 (k:Int)/\Hid (cN*cN*lN=N)/\Hid (∀j,j<k->¬prN j*prN j∣lN)/\Hid (Below w.heap.size w wr))
  (λ_ _ i _=>25-(RowKit.intOf i).toNat)
 case atStart=>exact⟨0,1,N,by omega,rfl,rfl,rfl,hid (by omega),hid (λj h=>by omega),hid hB0⟩
 case round=>
  clear hB0 hwm hblk
  obtain⟨k,cN,lN,hk,rfl,rfl,rfl,hE,hD,hB⟩:=hrel
  by_cases hlt:k<25
  ·have hx:=λw=>z25 k hlt w
   obtain⟨g1,g2⟩:=zw4 k hlt
   have hat:=hid (AT.out k hlt)
   obtain⟨p,hp⟩:∃p,p=prN k:=⟨_,rfl⟩
   rw[<-hp] at g1 g2 hat
   have HPk:=hid hp;clear hp
   generalize prS k=y at*
   have hwp:IntKind.i64.wrap ((p:Int)*(p:Int))=((p*p:Nat):Int):=by
    have:p*p<=97*97:=Nat.mul_le_mul g2 g2
    rw[<-Int.natCast_mul];exact IntWalk.i64_in _ (by omega)
   have hpp:4<=p*p:=Nat.mul_le_mul g1 g1
   obtain⟨pp,hpp2⟩:∃pp,pp=p*p:=⟨_,rfl⟩
   rw[<-hpp2] at hwp hpp
   have HPP:=hid hpp2;clear hpp2
   go_wp2_with fail
   refine(hat.out wr).mono ?_
   rintro e w2 ⟨rfl,hb2⟩
   have hB2:=hid (hB.out.trans (hb2.mono hB.out.size));clear hb2 hB hx hat
   go_wp2_with fail
   go_loopw [6,7] (λc lf wr=>∃cN lN:Nat,c=I cN/\lf=I lN/\Hid (cN*cN*lN=N)/\Hid (∀j,j<k->¬prN j*prN j∣lN)/\Hid (Below w.heap.size w wr))
    (λ_ lf _=>(RowKit.intOf lf).toNat)
   case atStart=>exact⟨cN,lN,rfl,rfl,hE,hD,hB2⟩
   case round=>
    clear hE hD hB2
    obtain⟨cN,lN,rfl,rfl,hE,hD,hB⟩:=hrel
    have hl0:0<lN:=Nat.pos_of_ne_zero (λh=>by have:=hE.out;rw[h] at this;simp at this;omega)
    have hpp0:¬pp=0:=by omega
    have hle:lN<=N:=by rw[<-hE.out];exact Nat.le_mul_of_pos_left _ (Nat.pos_of_ne_zero (λh=>by have:=hE.out;rw[h] at this;simp at this;omega))
    have hmod:(lN:Int).tmod (pp:Int)=((lN%pp:Nat):Int):=rfl
    have hdiv:(lN:Int).tdiv (pp:Int)=((lN/pp:Nat):Int):=rfl
    have hwz:∀z:Nat,z<=lN->IntKind.i64.wrap (z:Int)=(z:Int):=λz hz=>IntWalk.i64_in _ (by omega)
    have hwm:=hwz _ (Nat.mod_le lN pp)
    have hwd:=hwz _ (Nat.div_le_self lN pp)
    have hwq:IntKind.i64.wrap ((lN:Int)/(pp:Int))=((lN/pp:Nat):Int):=by rw[<-Int.natCast_ediv];exact hwd
    have HWQ:=hid hwq
    clear hwz hwq
    by_cases hd:pp∣lN
    ·have hm0:(((lN%pp:Nat):Int)==0)=true:=by rw[Nat.mod_eq_zero_of_dvd hd];rfl
     have hnext:=z1s (c:=cN) (l:=lN) (p:=p) (by rw[<-HPP.out];exact hd)
     rw[<-HPP.out,hE.out] at hnext
     have hl1:0<lN/pp:=Nat.pos_of_ne_zero (λh=>by rw[h] at hnext;simp at hnext;omega)
     have hcp:cN*p<=N:=by
      rw[<-hnext]
      exact Nat.le_trans (Nat.le_mul_self _) (Nat.le_mul_of_pos_right _ hl1)
     have hwc:IntKind.i64.wrap ((cN:Int)*(p:Int))=((cN*p:Nat):Int):=by rw[<-Int.natCast_mul];exact IntWalk.i64_in _ (by omega)
     have hlt2:lN/pp<lN:=Nat.div_lt_self hl0 (by omega)
     have hkeep:∀j,j<k->¬prN j*prN j∣lN/pp:=λj hj h=>hD.out j hj (Nat.dvd_trans h (Nat.div_dvd_of_dvd hd))
     have HNX:=hid hnext;have HK:=hid hkeep;have HL:=hid hlt2
     clear hnext hkeep hd hlt2 hl1 hcp
     go_wp2
     (refine wp_region_quiet_lit (by kernel_rfl) (by kernel_rfl) (WQ.out ?_);(repeat(first|(apply WQ.read (by rfl);(focus(rintro W ⟨n,rfl⟩;go_simp;try with_reducible rfl));try simp only[Act.put,zzA,zzB,zzC])|(apply WQ.skip (by rfl);try simp only[Act.put,zzA,zzB,zzC])));refine WQ.nil ?_;rintro _ ⟨nq,rfl⟩)
     go_wp2
     go_roundw
     case rel=>exact⟨cN*p,lN/pp,by first|rfl|simp,by first|(rw[HWQ.out])|rfl|simp,HNX,HK,hid (zao hB.out _)⟩
     case measure=>
      rw[HWQ.out]
      show(lN/pp:Nat)<lN
      exact HL.out
    ·have hm0:(((lN%pp:Nat):Int)==0)=false:=by
      rw[beq_eq_false_iff_ne];intro h;exact hd (Nat.dvd_of_mod_eq_zero (by omega))
     have hkeep:∀j,j<k+1->¬prN j*prN j∣lN:=λj hj h=>by
      by_cases e:j=k
      ·subst e;rw[<-HPk.out,<-HPP.out] at h;exact hd h
      ·exact hD.out j (by omega) h
     have HK:=hid hkeep;clear hkeep hd
     go_wp2
     go_roundw
     case rel=>exact⟨k+1,cN,lN,by omega,rfl,rfl,by go_num,hE,HK,hB⟩
     case measure=>simp[RowKit.intOf];omega
  ·have hk25:k=25:=by omega
   obtain⟨rfl,rfl⟩:=H1.out cN lN hE.out (λi hi=>hD.out i (by omega))
   have hw1:IntKind.i64.wrap ((1:Int)*1)=1:=by decide
   have hwc:IntKind.i64.wrap ((cN:Int)*1)=(cN:Int):=by rw[Int.mul_one];exact IntWalk.i64_in _ (by omega)
   clear hk25 hE hD AT H1
   go_wp2_with fail
   refine(zjj wr).mono ?_
   rintro e w2 ⟨rfl,hw1⟩
   have hw2:=hw1.symm;subst hw2;clear hw1
   go_wp2_with fail
   refine(z26 cN (by omega) wr (HW.out.below hB.out)).mono ?_
   rintro e w3 ⟨rfl,hb3⟩
   have hB3:=hB.out.trans (hb3.mono hB.out.size)
   go_wp2_with fail
   have hit:=zb3 1 (by omega) (by omega) w3 (HW.out.below hB3)
   rw[show Lib.itoa 1=[49] from by show Lib.itoa ((1:Nat):Int)=_;rw[Str.zad,zae (by omega)];rfl] at hit
   refine hit.mono ?_
   rintro e w4 ⟨rfl,hb4⟩
   have hB4:=hB3.trans (hb4.mono hB3.size)
   clear hit hb3 hb4
   go_wp2_with fail
   go_ret2
   exact⟨rfl,hB4⟩
end Go.Proofs.YtbjomkfgicffhaaGreatDoor
namespace Go.Proofs.YtbjomkfgicffhaaGreatDoor
open Go.RowKit Go.Shelf Lib Str Limb
open Go.ChangeShapes Go.WideShapes Go.ChangeAt
theorem zf9 {H:Type} {enc:TypeId×Value->H} {a:Assume} {C:Checked} {os:Os} {f:FuncId} {fn:Func} {s:ChangeSpec} {conds:List PathCond} {apart fresh handsOn again:Bool} {X:World->Array Value->Prop}
 (hX:∀(w w':World) (args:Array Value),w.heap=w'.heap->X w args->X w' args)
 (own:ownKnob C.prog.godebug=none) (started:os.Started) (noInit:C.prog.inits.idxOf? f=none) (hfn:C.prog.funcs[f]? =some fn)
 (witness:∃(w:World) (tape:Tape) (i:Input),w.os=os/\(w.forCall tape i).Shaped C.prog/\i.vars=[]/\Input.okWide C.prog (w.forCall tape i) .any w.heap.size f i/\
   ((s.pre enc C.prog fn conds apart (w.forCall tape i).memory i.args/\X (w.forCall tape i).memory i.args)/\sizedMet enc C.prog fn (OpenSpec.ofChange s) apart (w.forCall tape i).memory i.args)/\a.holds C.prog (lone (Frame.enter C.prog f i.args .normal) [] (w.forCall tape i)))
 (contract:∀(W:World) (args:Array Value) (ds gs:List (DataW H)) (before:List MemPlace) (base:Nat),
   (∀(j:Nat) t v,fn.params[j]? =some t->args[j]? =some v->Value.okWide C.prog W .any base t v)->
   DataW.Whole enc C.prog fn.params.toList s.vars apart W args.toList ds gs before->X W args->W.ShapedOpen C.prog->
   Calls C.prog f args W λe W'=>∃v,e=.returned v/\s.post enc C.prog fn apart fresh handsOn again W args v W'):
 ReturnsInHanded a C os f .any (λw args=>(s.pre enc C.prog fn conds apart w args/\X w args)/\sizedMet enc C.prog fn (OpenSpec.ofChange s) apart w args) (s.post enc C.prog fn apart fresh handsOn again):=by
 refine returnsInHanded_of_calls own started noInit witness ?_
 rintro w tape i _ hsh _ ⟨_,_,_,fn',hfn',_,_,_,_,hval⟩ ⟨⟨⟨ds,gs,before,hw,_⟩,hx⟩,_⟩ _
 obtain rfl:fn'=fn:=Option.some.inj (hfn'.symm.trans hfn)
 refine(contract (w.forCall tape i) i.args ds gs before w.heap.size hval (DataW.Whole.of_heap (w':=w.forCall tape i) (by rfl) hw) (hX _ _ _ (by rfl) hx) hsh).mono ?_
 rintro e W' ⟨v,rfl,hp⟩
 exact ChangeSpec.post_blind hp
theorem zp7 {H:Type} {enc:TypeId×Value->H} {P:Program} {w:World} {base:Nat} {sp:Nat->Bool} {held:Bool} {fuel:Nat} {t e:TypeId} {n:Nat} {cs:List Value} {ss:List (List UInt8)} {p:List MemPlace}
 (ht:P.underlying t=some (.array n e)) (he:P.underlying e=some .string) (hce:P.cellsOf e=1) (hct:P.cellsOf t=n) (hsl:ss.length=n)
 (h:DataW.trod enc P w base sp held fuel t cs=some (.agg (ss.map λs=>.lit (.string s)),p)):cs=ss.map λs=>Value.string ⟨s.toArray⟩:=by
 have hcl:cs.length=n:=by
  cases fuel with
  |zero=>simp[DataW.trod] at h
  |succ fuel=>
   have h0:=h
   simp only[DataW.trod,ht,hce,hct,Nat.mul_one] at h0
   split at h0
   ·rename_i hl;exact hl
   ·cases h0
 apply List.ext_getElem?
 intro i
 by_cases hi:i<n
 ·obtain⟨fu,d,q,hd,htr⟩:=array_elem ht h i hi
  rw[hce] at htr
  obtain⟨s,hs,hx,_⟩:=DataW.trod_string he htr
  simp only[Prod.mk.injEq] at hx
  obtain⟨rfl,_⟩:=hx
  have h1:cs[i]? =some (.string s):=by
   have:=congrArg (·[0]?) hs
   simpa [List.getElem?_take,List.getElem?_drop] using this
  rw[List.getElem?_map,Option.map_eq_some_iff] at hd
  obtain⟨l,hl,e⟩:=hd
  simp only[DataW.lit.injEq,Lit.string.injEq] at e
  rw[h1,List.getElem?_map,hl,e]
  rfl
 ·rw[List.getElem?_eq_none (by omega),List.getElem?_eq_none (by simp;omega)]
theorem z0v {l:List (String×DataW Unit)} {W:World} (hL:laidMet Tryz.prog l W) (hm:("internal/strconv.uint64pow10",Rows.laid_internal_strconv_uint64pow10)∈l) (hs:W.ShapedOpen Tryz.prog):Wd W:=by
 obtain⟨g,t,cs,fuel,p,hg,ht,hv,hd⟩:=Lib.laidMet.reads hL hm
 obtain rfl:g=0:=Option.some.inj (hg.symm.trans (by kernel_rfl))
 obtain rfl:t=222:=Option.some.inj (ht.symm.trans (by kernel_rfl))
 have e:(Rows.laid_internal_strconv_uint64pow10:DataW Unit)=Lib.tabData .u64 Lib.pow10Tab:=by kernel_rfl
 rw[e] at hd
 have hc:=Lib.cells_of_tab (n:=20) Tryz.underlying222 Tryz.underlying175 (by kernel_rfl) (by kernel_rfl) hd
 refine⟨?_,Proofs.cell_of_shapedOpen_int (t:=3) (zero:= #[.int .i64 0]) hs (of_decide_eq_true (by kernel_rfl)) (by kernel_rfl) rfl (by kernel_rfl) (by kernel_rfl) Tryz.underlying3⟩
 unfold Lib.TabIs
 rw[hv,<-hc]
theorem zzj:prV.toList=([[50],[51],[53],[55],[49,49],[49,51],[49,55],[49,57],[50,51],[50,57],[51,49],[51,55],[52,49],[52,51],[52,55],[53,51],[53,57],[54,49],[54,55],[55,49],[55,51],[55,57],[56,51],[56,57],[57,55]]:List (List UInt8)).map λs=>Value.string ⟨s.toArray⟩:=by kernel_rfl
theorem z0w {l:List (String×DataW Unit)} {W:World} (hL:laidMet Tryz.prog l W) (hm:("kingpost/root.primes",Rows.laid_kingpost_root_primes)∈l):Pw W:=by
 obtain⟨g,t,cs,fuel,p,hg,ht,hv,hd⟩:=Lib.laidMet.reads hL hm
 obtain rfl:g=1:=Option.some.inj (hg.symm.trans (by kernel_rfl))
 obtain rfl:t=249:=Option.some.inj (ht.symm.trans (by kernel_rfl))
 have e:(Rows.laid_kingpost_root_primes:DataW Unit)=.agg (([[50],[51],[53],[55],[49,49],[49,51],[49,55],[49,57],[50,51],[50,57],[51,49],[51,55],[52,49],[52,51],[52,55],[53,51],[53,57],[54,49],[54,55],[55,49],[55,51],[55,57],[56,51],[56,57],[57,55]]:List (List UInt8)).map λs=>.lit (.string s)):=by kernel_rfl
 rw[e] at hd
 have hc:=zp7 (n:=25) Tryz.underlying249 Tryz.underlying9 (by kernel_rfl) (by kernel_rfl) (by decide) hd
 obtain rfl:cs=prV:=Array.toList_inj.1 (hc.trans zzj.symm)
 exact⟨hv⟩
theorem zrj:ownKnob Tryz.prog.godebug=none:=by kernel_rfl
theorem zgh:laidOutB Tryz.prog=true:=by kernel_rfl
theorem zhe {H:Type} {enc:TypeId×Value->H} {W:World} {base:Nat} {sp:Nat->Bool} {held:Bool} {r:Reach} {b0:Nat} {v:Value} {d:DataW H} {ps:List MemPlace}
 (hval:Value.okWide Tryz.prog W r b0 24 v) (hd:DataW.Trod enc Tryz.prog W base sp held 24 v d ps):∃x y:List UInt8,v=.agg #[St x,St y]/\ps=[]:=by
 obtain⟨cs,rfl,hs⟩:=okWide_struct Tryz.underlying24 hval
 rw[show Tryz.prog.cellsOf 24=2 by kernel_rfl] at hs
 obtain⟨fuel,hf⟩:=hd
 obtain⟨y0,y1,n,hx,_,h0,h1⟩:=trod_struct2 Tryz.underlying24 hf
 obtain⟨s0,e0,rfl,_⟩:=DataW.trod_string Tryz.underlying22 h0
 obtain⟨s1,e1,rfl,_⟩:=DataW.trod_string Tryz.underlying22 h1
 simp only[Prod.mk.injEq,List.append_nil] at hx
 refine⟨s0.data.toList,s1.data.toList,?_,hx.2⟩
 rw[show Tryz.prog.cellsOf 22=1 by kernel_rfl] at e0 e1
 obtain⟨l⟩:=cs
 match l,hs with
 |[c0,c1],_=>
  have k0:c0=.string s0:=by simpa [Value.cells] using e0
  have k1:c1=.string s1:=by simpa [Value.cells] using e1
  subst k0;subst k1
  simp[St]
end Go.Proofs.YtbjomkfgicffhaaGreatDoor
namespace Go.Proofs.YtbjomkfgicffhaaGreatDoor
open Go
variable {F:Fence} {n:Nat} {P:Program} {ops:Array Oper} {β:Type}
def zho (F:Fence) (n:Nat) (P:Program) (C:Value->World->Prop):Result Next->Prop
 | .ok (.value u) w'=>C u w'
 | .ok .skip w'=>C undef w'
 | .ok (.enter f args) w'=>(F.depth.isSome=true->1<=n)/\CallsIn F (n-1) P f args w' (λe w''=>∃v,e=.returned v/\C v w'')
 | .ok (.round l f tmps assign body) w'=>(F.depth.isSome=true->1<=n)/\RoundIn F (n-1) P l f tmps assign body w' (λe w''=>∃v,e=.returned v/\C v w'')
 |_=>False
theorem zw5 {o:Oper} {a:Act} {w:World} {C:Value->World->Prop} {K:Act->World->Prop} {Q:Exit->Act->World->Prop} (hF:∀f,F.fn f) (hro:F.round=none) (hK:∀v w',C v w'->K (a.put o.dst v) w') (h:zho F n P C ((execOp a.eval o).run P w)):o.wpIn F n P a w K Q:=by
 refine⟨λf _=>hF f,?_⟩
 rw[hro,Oper.semAt_none]
 generalize (execOp a.eval o).run P w=r at*
 cases r with
 |ok x w'=>
  cases x<;>simp only[zho] at h<;>simp only[Oper.uponIn]
  ·exact hK _ _ h
  ·exact hK _ _ h
  ·exact⟨h.1,CallsIn.mono h.2 λe w'' ⟨v,he,hc⟩=>by subst he;exact hK _ _ hc⟩
  ·exact⟨h.1,RoundIn.mono h.2 λe w'' ⟨v,he,hc⟩=>by subst he;exact hK _ _ hc⟩
 |halt x w'=>simp only[zho] at h
def z1t (F:Fence) (n:Nat) (P:Program) (ops:Array Oper) (vs:β->Nat->Value) (C:β->Array Bool->World->Prop) (i:Nat) (o:Oper) (a:Act) (b:β):Prop:=
 ∀L w,AcAt ops i L->C b L w->if Region.wanted o (yielded ops a.tmps) then zho F n P (zgx vs C i L b) ((execOp a.eval o).run P w) else zgx vs C i L b undef w
theorem zs8 (hF:∀f,F.fn f) (hro:F.round=none) {Q:Exit->Act->World->Prop} {C:β->Array Bool->World->Prop} (hB:(acB ops&&zfd ops)=true) (vs:β->Nat->Value) (a:Act)
 (step:∀b i o,ops[i]? =some o->z1t F n P ops vs C i o (zax ops (vs b) a (zbw ops.size i) ops.size) b)
 (hend:∀b L w,(∀i,i<ops.size->L.getD i false=true)->C b L w->Q .normal (zax ops (vs b) a (zbw ops.size ops.size) ops.size) w):
 ∀(fuel:Nat) (L:Array Bool) (w:World) (b:β),L.size=ops.size->zoe ops L->((List.range ops.size).filter λi=>!L.getD i false).length<=fuel->C b L w->wpAnyIn F n P .any ops Q fuel L (zax ops (vs b) a L ops.size) w:=by
 obtain⟨hsel,hdist,hlook,hback⟩:=zmq hB
 have hq:∀b L w,(∀i,i<ops.size->L.getD i false=true)->C b L w->Q .normal (zax ops (vs b) a L ops.size) w:=by
  intro b L w hall hC
  have e:zax ops (vs b) a L ops.size=zax ops (vs b) a (zbw ops.size ops.size) ops.size:=by
   have:∀k,k<=ops.size->zax ops (vs b) a L k=zax ops (vs b) a (zbw ops.size ops.size) k:=by
    intro k
    induction k with
    |zero=>intro _;rfl
    |succ k ih=>
     intro hk
     simp only[zax]
     rw[ih (by omega),hall k (by omega),zd5]
     simp[show k<ops.size by omega]
   exact this _ (Nat.le_refl _)
  rw[e];exact hend b L w hall hC
 have hready:∀L,L.size=ops.size->Region.ready .any ops L=[]->∀i,i<ops.size->L.getD i false=true:=by
  intro L hsz h0 i
  induction i using Nat.strongRecOn with
  |_ i ih=>
   intro hi
   cases hl:L.getD i false with
   |true=>rfl
   |false=>
    have hm:i∈Region.ready .any ops L:=by
     refine mem_ready.2 ⟨getD_in (by omega) hl,ops[i],by simp[hi],λe he hb=>?_⟩
     have hlt:=hback i (ops[i]) (show ops[i]? =some (ops[i]) from Array.getElem?_eq_getElem hi) e he hb
     exact ih e.on hlt (Nat.lt_trans hlt hi)
    rw[h0] at hm;cases hm
 intro fuel
 induction fuel with
 |zero=>
  intro L w b hsz hcl hcount hC
  have hall:∀i,i<ops.size->L.getD i false=true:=by
   intro i hi
   cases hl:L.getD i false with
   |true=>rfl
   |false=>
    have:i∈(List.range ops.size).filter λi=>!L.getD i false:=List.mem_filter.2 ⟨List.mem_range.2 hi,by rw[hl];rfl⟩
    rw[List.length_eq_zero_iff.1 (Nat.le_zero.1 hcount)] at this;cases this
  refine⟨?_,hq b L w hall hC⟩
  apply List.eq_nil_iff_forall_not_mem.2
  intro i hi
  obtain⟨h1,o,ho,_⟩:=mem_ready.1 hi
  have:=hall i (Array.getElem?_eq_some_iff.1 ho).1
  rw[getD_both h1] at this;cases this
 |succ fuel ih=>
  intro L w b hsz hcl hcount hC
  refine⟨λh0=>hq b L w (hready L hsz h0) hC,λi hi=>?_⟩
  obtain⟨h1,o,ho,hall⟩:=mem_ready.1 hi
  have hin:i<ops.size:=(Array.getElem?_eq_some_iff.1 ho).1
  have hLi:=getD_both h1
  have hdone:∀j,Region.waitsFor .any ops i j=true->L.getD j false=true:=by
   intro j hw
   obtain⟨o',ho',e,he,hb,rfl⟩:=Region.waitsFor_spec hw
   have:o'=o:=Option.some.inj (ho'.symm.trans ho)
   subst this
   exact hall e he hb
  have hopen:∀j,Region.waitsFor .any ops j i=true->L.getD j false=false:=by
   intro j hw
   cases hl:L.getD j false with
   |false=>rfl
   |true=>rw[hcl j i hl hw] at hLi;cases hLi
  have hat:AcAt ops i L:=⟨hsz,hLi,hdone,hcl⟩
  have hst:=step b i o ho L w hat hC
  have hset:=λb'=>zic (vs b') a L i (by omega) hLi (λj d hne hd hj=>by
   rcases Nat.lt_or_ge j ops.size with hjn|hjn
   ·exact hdist i j d hin hjn (Ne.symm hne) hj hd
   ·simp[zcr,Array.getElem?_eq_none hjn] at hj) ops.size
  simp only[if_pos hin] at hset
  have hsame:=zit (ops:=ops) (a:=zax ops (vs b) a L ops.size) (b:=zax ops (vs b) a (zbw ops.size i) ops.size) (o:=o) (λcs b=>Region.noSelect_spec hsel i o cs b ho) (λt ht=>by
   refine zib (vs b) a L _ t ops.size λj hj hd=>?_
   rw[zd5]
   by_cases hji:j=i
   ·subst hji;rw[hLi];simp
   ·have:=hlook i j t hin hj (Ne.symm hji) hd (by simpa [zi8,ho] using ht)
    rcases this with⟨h2,h3⟩|⟨h2,h3⟩
    ·rw[hdone j h3];simp[hj,h2]
    ·rw[hopen j h3];simp;omega)
  have hnext:∀v w',zgx vs C i L b v w'->wpAnyIn F n P .any ops Q fuel (L.setIfInBounds i true) ((zax ops (vs b) a L ops.size).put o.dst v) w':=by
   rintro v w' ⟨b',hagree,rfl,hC'⟩
   have hd:o.dst=zcr ops i:=by simp[zcr,ho]
   rw[hd,ziw (vs b) (vs b') a L (λj hj=>(hagree j hj).symm) ops.size,<-hset b']
   refine ih _ w' b' (by simpa using hsz) ?_ ?_ hC'
   ·intro x y hx hw
    rw[zdp L i _ (by omega)] at hx⊢
    split
    ·rfl
    ·split at hx
     ·rename_i h;subst h;exact hdone y hw
     ·exact hcl x y hx hw
   ·have e:((List.range ops.size).filter λx=>!(L.setIfInBounds i true).getD x false)=((List.range ops.size).filter λx=>!L.getD x false).filter λx=>decide (x≠i):=by
     rw[List.filter_filter]
     refine List.filter_congr λx _=>?_
     rw[zdp L i x (by omega)]
     by_cases h:i=x
     ·subst h;simp
     ·simp[h,Ne.symm h]
    rw[e]
    have:=(List.length_filter_lt_length_iff_exists (l:=(List.range ops.size).filter λx=>!L.getD x false) (p:=λx=>decide (x≠i))).2 ⟨i,List.mem_filter.2 ⟨List.mem_range.2 hin,by rw[hLi];rfl⟩,by simp⟩
    omega
  unfold wpOpIn
  simp only[ho]
  rw[hsame.2]
  by_cases hw:Region.wanted o (yielded ops (zax ops (vs b) a (zbw ops.size i) ops.size).tmps)=true
  ·rw[if_pos hw] at hst⊢
   rw[<-hsame.1] at hst
   exact zw5 hF hro hnext hst
  ·rw[if_neg hw] at hst⊢
   exact⟨λf _=>hF f,hnext _ _ hst⟩
def zt3 (F:Fence) (n:Nat) (P:Program) (ops:Array Oper) (vs:β->Nat->Value) (C:β->(Nat->Bool)->World->Prop) (i:Nat) (o:Oper) (a:Act) (b:β):Prop:=
 ∀f w,AcF ops i f->C b f w->
  if Region.wanted o (yielded ops a.tmps) then zho F n P (zhn vs C i f b) ((execOp a.eval o).run P w) else zhn vs C i f b undef w
def AcLN (F:Fence) (n:Nat) (P:Program) (ops:Array Oper) (vs:β->Nat->Value) (C:β->(Nat->Bool)->World->Prop) (K:Act->World->Prop) (b:β):Nat->List Oper->Act->Prop
 |_,[],a=>∀f w,(∀i,i<ops.size->f i=true)->C b f w->K a w
 |k,o::rest,a=>zt3 F n P ops vs C k o a b/\AcLN F n P ops vs C K b (k+1) rest (a.put o.dst (vs b k))
section
variable {vs:β->Nat->Value} {C:β->(Nat->Bool)->World->Prop} {K:Act->World->Prop} {k:Nat} {o:Oper} {rest:List Oper} {a:Act} {b:β}
theorem z1u (h:∀f w,(∀i,i<ops.size->f i=true)->C b f w->K a w):AcLN F n P ops vs C K b k [] a:=h
theorem zct (v:Value) (hv:vs b k=v) (hw:Region.wanted o (yielded ops a.tmps)=true)
 (hset:∀f w,C b f w->C b (λj=>if k=j then true else f j) w)
 (hy:∀f w,AcF ops k f->C b f w->(execOp a.eval o).run P w=.ok (.value v) w)
 (h:AcLN F n P ops vs C K b (k+1) rest (a.put o.dst v)):AcLN F n P ops vs C K b k (o::rest) a:=by
 subst hv
 refine⟨λf w hf hC=>?_,h⟩
 rw[if_pos hw,hy f w hf hC]
 exact⟨b,λ_ _=>rfl,rfl,hset f w hC⟩
theorem z1v (v:Value) (hv:vs b k=v) (hw:Region.wanted o (yielded ops a.tmps)=true)
 (hy:∀f w,AcF ops k f->C b f w->∀C':Value->World->Prop,(∀b' w',(∀j,f j=true->vs b' j=vs b j)->C b' (λj=>if k=j then true else f j) w'->C' (vs b' k) w')->zho F n P C' ((execOp a.eval o).run P w))
 (h:AcLN F n P ops vs C K b (k+1) rest (a.put o.dst v)):AcLN F n P ops vs C K b k (o::rest) a:=by
 subst hv
 refine⟨λf w hf hC=>?_,h⟩
 rw[if_pos hw]
 exact hy f w hf hC _ λb' w' hj h'=>⟨b',hj,rfl,h'⟩
end
theorem zk8 {vs:β->Nat->Value} {C:β->(Nat->Bool)->World->Prop} {K:Act->World->Prop} {b:β}:∀(l:List Oper) (k:Nat) (a:Act),AcLN F n P ops vs C K b k l a->
 (∀i o,l[i]? =some o->zt3 F n P ops vs C (k+i) o (zbq (vs b) k l a i) b)/\(∀f w,(∀i,i<ops.size->f i=true)->C b f w->K (zbq (vs b) k l a l.length) w)
 |[],k,a,h=>⟨λi o h=>by simp at h,h⟩
 |o::l,k,a,⟨hv,h⟩=>by
  obtain⟨h1,h2⟩:=zk8 l (k+1) _ h
  refine⟨λi o' ho=>?_,?_⟩
  ·cases i with
   |zero=>
    obtain rfl:o=o':=by simpa using ho
    simpa [zbq] using hv
   |succ i=>
    have:=h1 i o' (by simpa using ho)
    simp only[zbq]
    rw[show k+(i+1)=k+1+i by omega]
    exact this
  ·simp only[zbq,List.length_cons]
   exact h2
theorem zrk (hF:∀f,F.fn f) (hro:F.round=none) {K:Act->World->Prop} {Q:Exit->Act->World->Prop} (hQ:∀a w,K a w->Q .normal a w) {l:List Oper} (vs:β->Nat->Value) (C:β->(Nat->Bool)->World->Prop) (hB:(acB l.toArray&&zfd l.toArray)=true) {a:Act} {w:World} (b0:β) (hC:C b0 (λ_=>false) w) (h:∀b,AcLN F n P l.toArray vs C K b 0 l a):
 wpAnyIn F n P .any l.toArray Q l.toArray.size (Array.replicate l.toArray.size false) a w:=by
 have e0:zax l.toArray (vs b0) a (Array.replicate l.toArray.size false) l.toArray.size=a:=by
  have:∀k,zax l.toArray (vs b0) a (Array.replicate l.toArray.size false) k=a:=by
   intro k
   induction k with
   |zero=>rfl
   |succ k ih=>
    have:(Array.replicate l.toArray.size false).getD k false=false:=by
     simp only[Array.getD];split<;>simp
    simp only[zax,this,Bool.false_eq_true,if_false];exact ih
  exact this _
 have:=zs8 (n:=n) hF hro (P:=P) (ops:=l.toArray) (Q:=Q) (C:=λb L w=>C b (λj=>L.getD j false) w) hB vs a ?_ ?_ l.toArray.size (Array.replicate l.toArray.size false) w b0 (by simp) ?_ ?_ ?_
 ·rw[e0] at this;exact this
 ·intro b i o ho L w hat hc
  have h1:=(zk8 l 0 a (h b)).1
  have hi:i<l.length:=by
   have:=(Array.getElem?_eq_some_iff.1 ho).1
   simpa using this
  have hst:=h1 i o (by simpa using ho) (λj=>L.getD j false) w (by rw[Nat.zero_add];exact⟨hat.self,hat.done,hat.closed⟩) hc
  have ea:zax l.toArray (vs b) a (zbw l.toArray.size i) l.toArray.size=zbq (vs b) 0 l a i:=by
   have:=zdg (vs b) l a i (by omega) l.length (Nat.le_refl _)
   rw[Nat.min_eq_left (by omega)] at this
   simpa using this
  have es:(λj=>(L.setIfInBounds i true).getD j false)=(λj=>if i=j then true else L.getD j false):=by
   funext j
   exact zdp L i j (by rw[hat.size];simpa using hi)
  rw[Nat.zero_add] at hst
  rw[ea]
  unfold zhn at hst
  unfold zgx
  simp only[es]
  exact hst
 ·intro b L w hall hc
  have h2:=(zk8 l 0 a (h b)).2
  have ea:zax l.toArray (vs b) a (zbw l.toArray.size l.toArray.size) l.toArray.size=zbq (vs b) 0 l a l.length:=by
   have:=zdg (vs b) l a l.length (Nat.le_refl _) l.length (Nat.le_refl _)
   rw[Nat.min_self] at this
   simpa using this
  rw[ea]
  exact hQ _ _ (h2 _ w hall hc)
 ·intro i j hi
  have:(Array.replicate l.toArray.size false).getD i false=false:=by simp only[Array.getD];split<;>simp
  rw[this] at hi;cases hi
 ·refine Nat.le_trans (List.length_filter_le _ _) (by simp)
 ·have:(λj=>(Array.replicate l.toArray.size false).getD j false)= λ_=>false:=by
   funext j
   simp only[Array.getD];split<;>simp
  simpa only[this] using hC
theorem zns {id:Nat} {Q:Exit->Act->World->Prop} {a:Act} {w:World} {l:List Oper} (hF:∀f,F.fn f) (hro:F.round=none) (vs:β->Nat->Value) (C:β->(Nat->Bool)->World->Prop) (hm:P.follows .mixedOrders=true) (hB:(acB l.toArray&&zfd l.toArray)=true) (b0:β) (hC:C b0 (λ_=>false) {w with drawn:=w.drawn+1})
 (h:∀b,AcLN F n P l.toArray vs C (Q .normal) b 0 l a):(Code.region id l.toArray true).wpIn F n P Q a w:=
 wpIn_region_any hm (zrk hF hro (λ_ _ h=>h) vs C hB b0 hC h)
end Go.Proofs.YtbjomkfgicffhaaGreatDoor
