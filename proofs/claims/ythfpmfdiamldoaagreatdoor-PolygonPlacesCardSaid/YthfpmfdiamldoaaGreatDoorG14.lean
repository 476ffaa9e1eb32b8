/- From a row's conditions to what the walks ask: the listed variables' cells; a point among the arguments. -/
import Derived.Test.YthfpmfdiamldoaaGreatDoorRows
import Derived.Test.YthfpmfdiamldoaaGreatDoorG13
import Derived.ProofKit
import Derived.Lib.LaidU8
import Derived.HandedShaped
import Derived.Lay
import Derived.Shelf.Vars
import Derived.Carry
set_option maxRecDepth 100000
set_option maxHeartbeats 8000000
open Go renaming World → zA, Calls → zC
open Go.Lib renaming decDigits → zD
open Go.Proofs.Tryz renaming prog → zF
open Go.IntWalk renaming i64_in → zI
open Go.RowKit renaming intOf → zL
open Go.RowKit.Below renaming refl → zM
open Nat renaming le_refl → zN, zero_le → zR
open List renaming getElem_mem → zY, getElem?_eq_getElem → yB
namespace Go.Proofs.YthfpmfdiamldoaaGreatDoor
section
open Go.RowKit Go.Shelf Lib Str Limb
open Go.ChangeShapes Go.WideShapes Go.ChangeAt
theorem zf9 {H:Type} {enc:TypeId×Value->H} {a:Assume} {C:Checked} {os:Os} {f:FuncId} {fn:Func} {s:ChangeSpec} {conds:List PathCond} {apart fresh handsOn again:Bool} {X:zA->Array Value->Prop}
 (hX:∀(w w':zA) (args:Array Value),w.heap=w'.heap->X w args->X w' args)
 (own:ownKnob C.prog.godebug=none) (started:os.Started) (noInit:C.prog.inits.idxOf? f=none) (hfn:C.prog.funcs[f]? =some fn)
 (witness:∃(w:zA) (tape:Tape) (i:Input),w.os=os/\(w.forCall tape i).Shaped C.prog/\i.vars=[]/\Input.okWide C.prog (w.forCall tape i) .any w.heap.size f i/\
   ((s.pre enc C.prog fn conds apart (w.forCall tape i).memory i.args/\X (w.forCall tape i).memory i.args)/\sizedMet enc C.prog fn (OpenSpec.ofChange s) apart (w.forCall tape i).memory i.args)/\a.holds C.prog (lone (Frame.enter C.prog f i.args .normal) [] (w.forCall tape i)))
 (contract:∀(W:zA) (args:Array Value) (ds gs:List (DataW H)) (before:List MemPlace) (base:Nat),
   (∀(j:Nat) t v,fn.params[j]? =some t->args[j]? =some v->Value.okWide C.prog W .any base t v)->
   DataW.Whole enc C.prog fn.params.toList s.vars apart W args.toList ds gs before->X W args->W.ShapedOpen C.prog->
   zC C.prog f args W λe W'=>∃v,e=.returned v/\s.post enc C.prog fn apart fresh handsOn again W args v W'):
 ReturnsInHanded a C os f .any (λw args=>(s.pre enc C.prog fn conds apart w args/\X w args)/\sizedMet enc C.prog fn (OpenSpec.ofChange s) apart w args) (s.post enc C.prog fn apart fresh handsOn again):=by
 refine returnsInHanded_of_calls own started noInit witness ?_
 rintro w tape i _ hsh _ ⟨_,_,_,fn',hfn',_,_,_,_,hval⟩ ⟨⟨⟨ds,gs,before,hw,_⟩,hx⟩,_⟩ _
 obtain rfl:fn'=fn:=Option.some.inj (hfn'.symm.trans hfn)
 refine(contract (w.forCall tape i) i.args ds gs before w.heap.size hval (DataW.Whole.of_heap (w':=w.forCall tape i) (by rfl) hw) (hX _ _ _ (by rfl) hx) hsh).mono ?_
 rintro e W' ⟨v,rfl,hp⟩
 exact ChangeSpec.post_blind hp
theorem zp7 {H:Type} {enc:TypeId×Value->H} {P:Program} {w:zA} {base:Nat} {sp:Nat->Bool} {held:Bool} {fuel:Nat} {t e:TypeId} {n:Nat} {cs:List Value} {ss:List (List UInt8)} {p:List MemPlace}
 (ht:P.underlying t=some (.array n e)) (he:P.underlying e=some .string) (hce:P.cellsOf e=1) (hct:P.cellsOf t=n) (hsl:ss.length=n)
 (h:DataW.trod enc P w base sp held fuel t cs=some (.agg (ss.map λs=>.lit (.string s)),p)):cs=ss.map λs=>Value.string ⟨s.toArray⟩:=by
 have hcl:cs.length=n:=by
  cases fuel with
  |zero=>simp[DataW.trod] at h
  |succ fuel=>
   have h0:=h
   simp only[DataW.trod,ht,hce,hct,Nat.mul_one] at h0
   split at h0
   ·rename_i hl;exact hl
   ·cases h0
 apply List.ext_getElem?
 intro i
 by_cases hi:i<n
 ·obtain⟨fu,d,q,hd,htr⟩:=array_elem ht h i hi
  rw[hce] at htr
  obtain⟨s,hs,hx,_⟩:=DataW.trod_string he htr
  simp only[Prod.mk.injEq] at hx
  obtain⟨rfl,_⟩:=hx
  have h1:cs[i]? =some (.string s):=by
   have:=congrArg (·[0]?) hs
   simpa [List.getElem?_take,List.getElem?_drop] using this
  rw[List.getElem?_map,Option.map_eq_some_iff] at hd
  obtain⟨l,hl,e⟩:=hd
  simp only[DataW.lit.injEq,Lit.string.injEq] at e
  rw[h1,List.getElem?_map,hl,e]
  rfl
 ·rw[List.getElem?_eq_none (by omega),List.getElem?_eq_none (by simp;omega)]
theorem z0v {l:List (String×DataW Unit)} {W:zA} (hL:laidMet zF l W) (hm:("internal/strconv.uint64pow10",Rows.laid_internal_strconv_uint64pow10)∈l) (hs:W.ShapedOpen zF):Wd W:=by
 obtain⟨g,t,cs,fuel,p,hg,ht,hv,hd⟩:=Lib.laidMet.reads hL hm
 obtain rfl:g=2:=Option.some.inj (hg.symm.trans (by kernel_rfl))
 obtain rfl:t=293:=Option.some.inj (ht.symm.trans (by kernel_rfl))
 have e:(Rows.laid_internal_strconv_uint64pow10:DataW Unit)=Lib.tabData .u64 Lib.pow10Tab:=by kernel_rfl
 rw[e] at hd
 have hc:=Lib.cells_of_tab (n:=20) Tryz.underlying293 Tryz.underlying252 (by kernel_rfl) (by kernel_rfl) hd
 refine⟨?_,Proofs.cell_of_shapedOpen_int (t:=3) (zero:= #[.int .i64 0]) hs (of_decide_eq_true (by kernel_rfl)) (by kernel_rfl) rfl (by kernel_rfl) (by kernel_rfl) Tryz.underlying3⟩
 unfold Lib.TabIs
 rw[hv,<-hc]
theorem zzj:prV.toList=([[50],[51],[53],[55],[49,49],[49,51],[49,55],[49,57],[50,51],[50,57],[51,49],[51,55],[52,49],[52,51],[52,55],[53,51],[53,57],[54,49],[54,55],[55,49],[55,51],[55,57],[56,51],[56,57],[57,55]]:List (List UInt8)).map λs=>Value.string ⟨s.toArray⟩:=by kernel_rfl
theorem z0w {l:List (String×DataW Unit)} {W:zA} (hL:laidMet zF l W) (hm:("kingpost/root.primes",Rows.laid_kingpost_root_primes)∈l):Pw W:=by
 obtain⟨g,t,cs,fuel,p,hg,ht,hv,hd⟩:=Lib.laidMet.reads hL hm
 obtain rfl:g=3:=Option.some.inj (hg.symm.trans (by kernel_rfl))
 obtain rfl:t=297:=Option.some.inj (ht.symm.trans (by kernel_rfl))
 have e:(Rows.laid_kingpost_root_primes:DataW Unit)=.agg (([[50],[51],[53],[55],[49,49],[49,51],[49,55],[49,57],[50,51],[50,57],[51,49],[51,55],[52,49],[52,51],[52,55],[53,51],[53,57],[54,49],[54,55],[55,49],[55,51],[55,57],[56,51],[56,57],[57,55]]:List (List UInt8)).map λs=>.lit (.string s)):=by kernel_rfl
 rw[e] at hd
 have hc:=zp7 (n:=25) Tryz.underlying297 Tryz.underlying9 (by kernel_rfl) (by kernel_rfl) (by decide) hd
 obtain rfl:cs=prV:=Array.toList_inj.1 (hc.trans zzj.symm)
 exact⟨hv⟩
theorem zrj:ownKnob Tryz.prog.godebug=none:=by kernel_rfl
theorem zgh:laidOutB zF=true:=by kernel_rfl
theorem zpo {H:Type} {enc:TypeId×Value->H} {W:zA} {base:Nat} {sp:Nat->Bool} {held:Bool} {r:Reach} {b0:Nat} {v:Value} {d:DataW H} {ps:List MemPlace}
 (hval:Value.okWide zF W r b0 25 v) (hd:DataW.Trod enc zF W base sp held 25 v d ps):∃x y:List UInt8,v=.agg #[St x,St y]/\ps=[]:=by
 obtain⟨cs,rfl,hs⟩:=okWide_struct Tryz.underlying25 hval
 rw[show Tryz.prog.cellsOf 25=2 by kernel_rfl] at hs
 obtain⟨fuel,hf⟩:=hd
 obtain⟨y0,y1,n,hx,_,h0,h1⟩:=trod_struct2 Tryz.underlying25 hf
 obtain⟨s0,e0,rfl,_⟩:=DataW.trod_string Tryz.underlying23 h0
 obtain⟨s1,e1,rfl,_⟩:=DataW.trod_string Tryz.underlying23 h1
 simp only[Prod.mk.injEq,List.append_nil] at hx
 refine⟨s0.data.toList,s1.data.toList,?_,hx.2⟩
 rw[show Tryz.prog.cellsOf 23=1 by kernel_rfl] at e0 e1
 obtain⟨l⟩:=cs
 match l,hs with
 |[c0,c1],_=>
  have k0:c0=.string s0:=by simpa [Value.cells] using e0
  have k1:c1=.string s1:=by simpa [Value.cells] using e1
  subst k0;subst k1
  simp[St]
end
section
open Go.RowKit Go.Shelf Lib Str Limb
attribute [local go_sem] Oper.semAt_some
theorem zzt (a b:Nat) (ha:a<1000000000000000000) (hb:b<1000000000000000000) (w:zA):
 zC zF 107 #[I a,I b] w λe w'=>∃nd,e=.returned (I (Nat.gcd a b))/\w'=w.drewN nd:=by
 obtain⟨g,hg⟩:∃g,g=Nat.gcd a b:=⟨_,rfl⟩
 rw[<-hg]
 have HG:=hid hg;clear hg
 go_enter Tryz.func107,Tryz.ntmps107
 go_wp2
 go_loopw [0,1] (λx y wr=>∃m n:Nat,x=I m/\y=I n/\Hid (Nat.gcd m n=g)/\m<1000000000000000000/\n<1000000000000000000/\∃nd,wr=w.drewN nd)
  (λ_ y _=>(zL y).toNat)
 case atStart=>exact⟨a,b,rfl,rfl,HG.out.symm,ha,hb,0,rfl⟩
 case round=>
  clear ha hb
  obtain⟨m,n,rfl,rfl,hgm,m1,n1,nd,rfl⟩:=hrel
  by_cases h0:n=0
  ·subst h0
   have hm:m=g:=by have:=hgm.out;rw[Nat.gcd_zero_right] at this;exact this
   have HM:=hid hm;clear hm
   go_wp2
   go_ret
   exact⟨nd,by rw[HM.out];rfl,rfl⟩
  ·have hn0:((n:Int) !=0)=true:=by simp;omega
   obtain⟨t,ht⟩:∃t,t=m%n:=⟨_,rfl⟩
   have ht1:t<n:=by rw[ht];exact Nat.mod_lt _ (by omega)
   have hgt:=zh1 m n
   rw[<-ht] at hgt
   have hwr:IntKind.i64.wrap ((m:Int).tmod n)=(t:Int):=by
    rw[Int.tmod_eq_emod_of_nonneg (by omega),<-Int.natCast_emod,<-ht];exact zI _ (by omega)
   have hwe:((m:Int).tmod n)=(t:Int):=by rw[Int.tmod_eq_emod_of_nonneg (by omega),<-Int.natCast_emod,<-ht]
   have HGT:=hid hgt;have HW:=hid hwe;clear hgt ht hwe
   go_wp2
   (refine wp_region_quiet_lit (by kernel_rfl) (by kernel_rfl) (WQ.out ?_);(repeat(first|(apply WQ.read (by rfl);(focus(rintro W ⟨n,rfl⟩;go_simp;try with_reducible rfl));try simp only[zzQ])|(apply WQ.skip (by rfl);try simp only[zzQ])));refine WQ.nil ?_;rintro _ ⟨nq,rfl⟩)
   go_wp2
   go_roundw
   case rel=>exact⟨n,t,rfl,by first|rfl|(rw[HW.out])|(show Value.int .i64 _=Value.int .i64 _;congr 1;have:=HW.out;rw[<-this,Int.tmod_eq_emod_of_nonneg (by omega)]),HGT.out.trans hgm.out,n1,by omega,_,World.drewN_drewN _ _ _⟩
   case measure=>first|(show((m:Int).tmod n).toNat<(n:Int).toNat;rw[HW.out];omega)|(simp[zL];omega)
theorem zdd (l:List UInt8) (s:ByteArray) (hs:s=⟨l.toArray⟩):s.size=l.length/\∀k (hk:k<l.length) (hb:k<s.size),s[k]'hb=l[k]'hk:=by
 subst hs
 exact⟨by show l.toArray.size=_;simp,λk hk hb=>rfl⟩
theorem ztc (l:List UInt8):zds l↔l.length≠0/\¬(1<l.length/\l.head? =some 48)/\∀k (hk:k<l.length),48<=(l[k]'hk).toNat/\(l[k]'hk).toNat<=57:=by
 constructor
 ·rintro⟨h1,h2,h3⟩
  exact⟨λh=>h1 (List.length_eq_zero_iff.1 h),λ⟨h4,h5⟩=>by have:=h3 h5;omega,λk hk=>h2 _ (zY hk)⟩
 ·rintro⟨h1,h2,h3⟩
  refine⟨λh=>h1 (by rw[h];rfl),λc hc=>?_,λh=>?_⟩
  ·obtain⟨k,hk,rfl⟩:=List.getElem_of_mem hc
   exact h3 k hk
  ·exact Nat.le_antisymm (Nat.le_of_not_lt λh4=>h2 ⟨h4,h⟩) (by omega)
theorem zme (l:List UInt8) (hl:l.length<=1000000) (w:zA):
 zC zF 106 #[St l] w λe w'=>∃b,e=.returned (.bool b)/\(b=true↔zds l)/\w'=w:=by
 rw[ztc]
 obtain⟨s,hs⟩:∃s:ByteArray,s=⟨l.toArray⟩:=⟨_,rfl⟩
 obtain⟨b1,b2⟩:=zdd l s hs
 show zC _ _ #[.string ⟨l.toArray⟩] _ _
 rw[<-hs]
 have hh:∀hb:0<s.size,l.head? =some 48↔(s[0]'hb).toNat=48:=λhb=>by
  have h0:0<l.length:=by omega
  rw[b2 0 h0 hb,List.head?_eq_getElem?,yB h0]
  constructor
  ·intro h;injection h with h;rw[h];rfl
  ·intro h;congr 1;exact UInt8.toNat_inj.1 (by rw[h];rfl)
 obtain⟨Q,hQ⟩:∃Q:Prop,Q=(l.length≠0/\¬(1<l.length/\l.head? =some 48)/\∀k (hk:k<l.length),48<=(l[k]'hk).toNat/\(l[k]'hk).toNat<=57):=⟨_,rfl⟩
 rw[<-hQ]
 have q1:s.size=0->¬Q:=λh=>by rw[hQ];exact λk=>k.1 (by omega)
 have q2:∀hb:0<s.size,1<s.size->(s[0]'hb).toNat=48->¬Q:=λhb h h'=>by rw[hQ];exact λk=>k.2.1 ⟨by omega,(hh hb).2 h'⟩
 have q3:∀k (hb:k<s.size),((s[k]'hb).toNat<48\/57<(s[k]'hb).toNat)->¬Q:=λk hb h=>by
  rw[hQ];intro k'
  have:=k'.2.2 k (by omega);rw[b2 k (by omega) hb] at h;omega
 have q4:∀hb:0<s.size,¬(1<s.size/\(s[0]'hb).toNat=48)->(∀k (hb:k<s.size),48<=(s[k]'hb).toNat/\(s[k]'hb).toNat<=57)->Q:=λhb h h'=>by
  rw[hQ];exact⟨by omega,λ⟨k1,k2⟩=>h ⟨by omega,(hh hb).1 k2⟩,λk hk=>by have:=h' k (by omega);rwa [b2 k hk (by omega)] at this⟩
 have hsz:s.size<=1000000:=by omega
 have Q1:=hid q1;have Q2:=hid q2;have Q3:=hid q3;have Q4:=hid q4
 clear q1 q2 q3 q4 hh hQ b1 b2 hs hl
 go_enter Tryz.func106,Tryz.ntmps106
 by_cases h0:s.size=0
 ·have h0':((s.size:Int)==0)=true:=by simpa using h0
  go_wp2
  go_ret
  exact⟨false,rfl,⟨λh=>by simp at h,λh=>absurd h (Q1.out h0)⟩,rfl⟩
 ·have h0':((s.size:Int)==0)=false:=by simpa using h0
  have h00:0<s.size:=by omega
  by_cases h1:1<s.size
  ·have h1':(1:Int)<s.size:=by omega
   by_cases h2:(s[0]'h00).toNat=48
   ·have h2':(((s[0]'h00).toNat:Int)==48)=true:=by rw[h2];rfl
    have HN:=hid (Q2.out h00 h1 h2);clear h2
    go_wp2
    go_ret
    exact⟨false,rfl,⟨λh=>by simp at h,λh=>absurd h HN.out⟩,rfl⟩
   ·have h2':(((s[0]'h00).toNat:Int)==48)=false:=by rw[beq_eq_false_iff_ne];omega
    have HN:=hid h2;clear h2
    go_wp2
    go_loop [3] (λi=>∃k:Nat,k<=s.size/\i=.int .i64 k/\Hid (∀j (hb:j<s.size),j<k->48<=(s[j]'hb).toNat/\(s[j]'hb).toNat<=57)) (λi=>s.size-(zL i).toNat)
    case atStart=>exact⟨0,zR _,rfl,λj _ h=>by omega⟩
    case round=>
     obtain⟨k,hk,rfl,hP⟩:=hrel
     by_cases hlt:k<s.size
     ·by_cases d1:(s[k]'hlt).toNat<48
      ·have e1:(((s[k]'hlt).toNat:Int))<48:=by omega
       have HN:=hid (Q3.out k hlt (.inl d1));clear d1
       go_wp2
       go_ret
       first|exact .inl ⟨rfl,HN.out,rfl⟩|exact⟨false,rfl,⟨λh=>by simp at h,λh=>absurd h HN.out⟩,rfl⟩
      ·by_cases d2:57<(s[k]'hlt).toNat
       ·have e1:(48:Int)<=(s[k]'hlt).toNat:=by omega
        have e2:(57:Int)<(s[k]'hlt).toNat:=by omega
        have HN:=hid (Q3.out k hlt (.inr d2));clear d1 d2
        go_wp2
        go_ret
        first|exact .inl ⟨rfl,HN.out,rfl⟩|exact⟨false,rfl,⟨λh=>by simp at h,λh=>absurd h HN.out⟩,rfl⟩
       ·have e1:(48:Int)<=(s[k]'hlt).toNat:=by omega
        have e2:((s[k]'hlt).toNat:Int)<=57:=by omega
        have hnext:∀j (hb:j<s.size),j<k+1->48<=(s[j]'hb).toNat/\(s[j]'hb).toNat<=57:=λj hb h=>by
         by_cases e:j=k
         ·subst e;omega
         ·exact hP.out j hb (by omega)
        have HN:=hid hnext;clear hnext d1 d2
        go_wp2
        go_round
        case rel=>exact⟨k+1,by omega,by go_num,HN⟩
        case measure=>simp[zL];omega
     ·have hq:=Q4.out h00 (λh=>HN.out h.2) (λj hb=>hP.out j hb (by omega))
      have HQ:=hid hq;clear hq
      go_wp2
      go_ret
      first|exact .inr ⟨rfl,HQ.out,rfl⟩|exact⟨true,rfl,⟨λ_=>HQ.out,λ_=>rfl⟩,rfl⟩
  ·have h1':¬(1:Int)<s.size:=by omega
   go_wp2
   go_loop [3] (λi=>∃k:Nat,k<=s.size/\i=.int .i64 k/\Hid (∀j (hb:j<s.size),j<k->48<=(s[j]'hb).toNat/\(s[j]'hb).toNat<=57)) (λi=>s.size-(zL i).toNat)
   case atStart=>exact⟨0,zR _,rfl,λj _ h=>by omega⟩
   case round=>
    obtain⟨k,hk,rfl,hP⟩:=hrel
    by_cases hlt:k<s.size
    ·by_cases d1:(s[k]'hlt).toNat<48
     ·have e1:(((s[k]'hlt).toNat:Int))<48:=by omega
      have HN:=hid (Q3.out k hlt (.inl d1));clear d1
      go_wp2
      go_ret
      first|exact .inl ⟨rfl,HN.out,rfl⟩|exact⟨false,rfl,⟨λh=>by simp at h,λh=>absurd h HN.out⟩,rfl⟩
     ·by_cases d2:57<(s[k]'hlt).toNat
      ·have e1:(48:Int)<=(s[k]'hlt).toNat:=by omega
       have e2:(57:Int)<(s[k]'hlt).toNat:=by omega
       have HN:=hid (Q3.out k hlt (.inr d2));clear d1 d2
       go_wp2
       go_ret
       first|exact .inl ⟨rfl,HN.out,rfl⟩|exact⟨false,rfl,⟨λh=>by simp at h,λh=>absurd h HN.out⟩,rfl⟩
      ·have e1:(48:Int)<=(s[k]'hlt).toNat:=by omega
       have e2:((s[k]'hlt).toNat:Int)<=57:=by omega
       have hnext:∀j (hb:j<s.size),j<k+1->48<=(s[j]'hb).toNat/\(s[j]'hb).toNat<=57:=λj hb h=>by
        by_cases e:j=k
        ·subst e;omega
        ·exact hP.out j hb (by omega)
       have HN:=hid hnext;clear hnext d1 d2
       go_wp2
       go_round
       case rel=>exact⟨k+1,by omega,by go_num,HN⟩
       case measure=>simp[zL];omega
    ·have hq:=Q4.out h00 (λh=>h1 h.1) (λj hb=>hP.out j hb (by omega))
     have HQ:=hid hq;clear hq
     go_wp2
     go_ret
     first|exact .inr ⟨rfl,HQ.out,rfl⟩|exact⟨true,rfl,⟨λ_=>HQ.out,λ_=>rfl⟩,rfl⟩
theorem znz (l:List UInt8) (hd:∀c∈l,48<=c.toNat/\c.toNat<=57) (hl:l.length<=9) (w:zA):
 zC zF 108 #[St l] w λe w'=>e=.returned (I (val l))/\w'=w:=by
 obtain⟨s,hs⟩:∃s:ByteArray,s=⟨l.toArray⟩:=⟨_,rfl⟩
 obtain⟨b1,b2⟩:=zdd l s hs
 have hvt:=λk hk=>ziu (l:=l) hd (k:=k) hk
 have hst:∀k (hb:k<s.size),48<=(s[k]'hb).toNat/\(s[k]'hb).toNat<=57/\val (l.take (k+1))=10*val (l.take k)+((s[k]'hb).toNat-48):=λk hb=>by
  have hk:k<l.length:=by omega
  rw[b2 k hk hb,List.take_succ_eq_append_getElem hk,zde]
  exact⟨(hd _ (zY hk)).1,(hd _ (zY hk)).2,rfl⟩
 have hfull:val (l.take s.size)=val l:=by rw[b1,List.take_length]
 show zC _ _ #[.string ⟨l.toArray⟩] _ _
 rw[<-hs]
 have hs9:s.size<=9:=by omega
 generalize hvf:(λk=>val (l.take k))=vf at*
 have hvt':∀k,k<=9->vf k<1000000000:=by rw[<-hvf];exact hvt
 have hst':∀k (hb:k<s.size),48<=(s[k]'hb).toNat/\(s[k]'hb).toNat<=57/\vf (k+1)=10*vf k+((s[k]'hb).toNat-48):=by rw[<-hvf];exact hst
 have hfull':vf s.size=val l:=by rw[<-hvf];exact hfull
 have hv0:vf 0=0:=by rw[<-hvf];rfl
 generalize val l=vl at*
 have VT:=hid hvt';have ST:=hid hst';have HF:=hid hfull';have V0:=hid hv0
 clear hvt' hst' hfull' hv0 hvt hst hfull hvf b1 b2 hs hd hl
 go_enter Tryz.func108,Tryz.ntmps108
 go_wp2
 go_loop [3,4] (λa i=>∃k:Nat,k<=s.size/\i=.int .i64 k/\a=.int .i64 (vf k:Nat)) (λ_ i=>s.size-(zL i).toNat)
 case atStart=>exact⟨0,zR _,rfl,by rw[V0.out];rfl⟩
 case round=>
  obtain⟨k,hk,rfl,rfl⟩:=hrel
  by_cases hlt:k<s.size
  ·obtain⟨c1,c2,c3⟩:=ST.out k hlt
   have hv:=VT.out k (by omega)
   generalize vf k=v at*
   have C3:=hid c3;clear c3
   have d1:(48:Int)<=(s[k].toNat:Int):=by omega
   have d2:(s[k].toNat:Int)<=57:=by omega
   go_wp2
   go_round
   case rel=>exact⟨k+1,by omega,by go_num,by rw[C3.out];show Value.int .i64 _=Value.int .i64 _;congr 1;omega⟩
   case measure=>simp[zL];omega
  ·have hk':k=s.size:=by omega
   have HK:=hid hk';clear hk'
   go_wp2
   go_ret
   exact⟨by rw[HK.out,HF.out];rfl,rfl⟩
theorem z10 (l:List UInt8) (hl:l.length<=1000000) (w:zA):
 zC zF 156 #[St l] w λe w'=>∃r:Nat,e=.returned (.int .i64 (r:Int))/\(r<=l.length/\((r≠0/\r=l.length)↔zds l))/\w'=w:=by
 rw[ztc]
 obtain⟨s,hs⟩:∃s:ByteArray,s=⟨l.toArray⟩:=⟨_,rfl⟩
 obtain⟨b1,b2⟩:=zdd l s hs
 show zC _ _ #[.string ⟨l.toArray⟩] _ _
 rw[<-hs]
 have hh:∀hb:0<s.size,l.head? =some 48↔(s[0]'hb).toNat=48:=λhb=>by
  have h0:0<l.length:=by omega
  rw[b2 0 h0 hb,List.head?_eq_getElem?,yB h0]
  constructor
  ·intro h;injection h with h;rw[h];rfl
  ·intro h;congr 1;exact UInt8.toNat_inj.1 (by rw[h];rfl)
 obtain⟨Q,hQ⟩:∃Q:Prop,Q=(l.length≠0/\¬(1<l.length/\l.head? =some 48)/\∀k (hk:k<l.length),48<=(l[k]'hk).toNat/\(l[k]'hk).toNat<=57):=⟨_,rfl⟩
 rw[<-hQ]
 have q1:s.size=0->¬Q:=λh=>by rw[hQ];exact λk=>k.1 (by omega)
 have q2:∀hb:0<s.size,1<s.size->(s[0]'hb).toNat=48->¬Q:=λhb h h'=>by rw[hQ];exact λk=>k.2.1 ⟨by omega,(hh hb).2 h'⟩
 have q3:∀k (hb:k<s.size),((s[k]'hb).toNat<48\/57<(s[k]'hb).toNat)->¬Q:=λk hb h=>by
  rw[hQ];intro k'
  have:=k'.2.2 k (by omega);rw[b2 k (by omega) hb] at h;omega
 have q4:∀hb:0<s.size,¬(1<s.size/\(s[0]'hb).toNat=48)->(∀k (hb:k<s.size),48<=(s[k]'hb).toNat/\(s[k]'hb).toNat<=57)->Q:=λhb h h'=>by
  rw[hQ];exact⟨by omega,λ⟨k1,k2⟩=>h ⟨by omega,(hh hb).1 k2⟩,λk hk=>by have:=h' k (by omega);rwa [b2 k hk (by omega)] at this⟩
 have hsz:s.size<=1000000:=by omega
 rw[<-b1]
 have Q1:=hid q1;have Q2:=hid q2;have Q3:=hid q3;have Q4:=hid q4
 clear q1 q2 q3 q4 hh hQ b1 b2 hs hl
 go_enter Tryz.func156,Tryz.ntmps156
 go_wp2
 go_loop [3] (λi=>∃k:Nat,k<=s.size/\i=.int .i64 k/\Hid (∀j (hb:j<s.size),j<k->48<=(s[j]'hb).toNat/\(s[j]'hb).toNat<=57)) (λi=>s.size-(zL i).toNat)
 case atStart=>exact⟨0,zR _,rfl,λj _ h=>by omega⟩
 case round=>
  obtain⟨k,hk,rfl,hP⟩:=hrel
  have hend:(k<s.size->¬Q)->∀b:Bool,(∀hb:0<s.size,1<k->(b=true↔(s[0]'hb).toNat=48))->∀z:Nat,z=(if 1<k/\b=true then 0 else k)->z<=s.size/\((z≠0/\z=s.size)↔Q):=λh1 b hb z hz=>by
   by_cases c:1<k/\b=true
   ·rw[if_pos c] at hz
    subst hz
    refine⟨zR _,λh=>absurd rfl h.1,λh=>absurd h (Q2.out (by omega) (by omega) ((hb (by omega) c.1).1 c.2))⟩
   ·rw[if_neg c] at hz
    subst hz
    refine⟨hk,λ⟨h2,h3⟩=>Q4.out (by omega) (λ⟨e1,e2⟩=>c ⟨by omega,(hb (by omega) (by omega)).2 e2⟩) (λj hj=>hP.out j hj (by omega)),λh=>?_⟩
    by_cases e:z<s.size
    ·exact absurd h (h1 e)
    ·refine⟨λe0=>?_,by omega⟩
     exact Q1.out (by omega) h
  by_cases hgo:∃hlt:k<s.size,48<=(s[k]'hlt).toNat/\(s[k]'hlt).toNat<=57
  ·obtain⟨hlt,d1,d2⟩:=hgo
   have e1:(48:Int)<=(s[k]'hlt).toNat:=by omega
   have e2:((s[k]'hlt).toNat:Int)<=57:=by omega
   have hnext:∀j (hb:j<s.size),j<k+1->48<=(s[j]'hb).toNat/\(s[j]'hb).toNat<=57:=λj hb h=>by
    by_cases e:j=k
    ·subst e;omega
    ·exact hP.out j hb (by omega)
   have HN:=hid hnext;clear hnext d1 d2 hend
   go_wp2
   go_round
   case rel=>exact⟨k+1,by omega,by go_num,HN⟩
   case measure=>simp[zL];omega
  ·have hstop:k<s.size->¬Q:=λhlt=>Q3.out k hlt (by
    by_cases c:(s[k]'hlt).toNat<48
    ·exact .inl c
    ·refine .inr (Nat.lt_of_not_le λd=>hgo ⟨hlt,Nat.le_of_not_lt c,d⟩))
   have HE:=hid (hend hstop)
   clear hend hstop
   have hz:(∃hlt:k<s.size,(((s[k]'hlt).toNat:Int)<48\/((48:Int)<=(s[k]'hlt).toNat/\(57:Int)<(s[k]'hlt).toNat)))\/k=s.size:=by
    by_cases hlt:k<s.size
    ·refine .inl ⟨hlt,?_⟩
     by_cases c:(s[k]'hlt).toNat<48
     ·exact .inl (by omega)
     ·have d:57<(s[k]'hlt).toNat:=Nat.lt_of_not_le λd=>hgo ⟨hlt,Nat.le_of_not_lt c,d⟩
      exact .inr ⟨by omega,by omega⟩
    ·exact .inr (by omega)
   clear hgo hP
   by_cases h1:1<k
   ·have h1':(1:Int)<k:=by omega
    have h0:0<s.size:=by omega
    by_cases h2:(s[0]'h0).toNat=48
    ·have h2':(((s[0]'h0).toNat:Int)==48)=true:=by rw[h2];rfl
     have HR:=hid (HE.out true (λhb _=>⟨λ_=>h2,λ_=>rfl⟩) 0 (by rw[if_pos ⟨h1,rfl⟩]))
     clear h2 HE
     rcases hz with⟨hlt,hz|⟨hz,hz'⟩⟩|hz
     ·go_wp2
      go_ret
      exact⟨0,rfl,HR.out,rfl⟩
     ·go_wp2
      go_ret
      exact⟨0,rfl,HR.out,rfl⟩
     ·have hz2:¬((k:Int)<s.size):=by omega
      have hz3:=hid hz;clear hz
      go_wp2
      go_ret
      exact⟨0,rfl,HR.out,rfl⟩
    ·have h2':(((s[0]'h0).toNat:Int)==48)=false:=by rw[beq_eq_false_iff_ne];omega
     have HR:=hid (HE.out false (λhb _=>⟨λh=>(by cases h),λh=>absurd h h2⟩) k (by rw[if_neg (by simp)]))
     clear h2 HE
     rcases hz with⟨hlt,hz|⟨hz,hz'⟩⟩|hz
     ·go_wp2
      go_ret
      exact⟨k,rfl,HR.out,rfl⟩
     ·go_wp2
      go_ret
      exact⟨k,rfl,HR.out,rfl⟩
     ·have hz2:¬((k:Int)<s.size):=by omega
      have hz3:=hid hz;clear hz
      go_wp2
      go_ret
      exact⟨k,rfl,HR.out,rfl⟩
   ·have h1':¬(1:Int)<k:=by omega
    have HR:=hid (HE.out false (λhb h=>absurd h h1) k (by rw[if_neg (by simp)]))
    clear HE
    rcases hz with⟨hlt,hz|⟨hz,hz'⟩⟩|hz
    ·go_wp2
     go_ret
     exact⟨k,rfl,HR.out,rfl⟩
    ·go_wp2
     go_ret
     exact⟨k,rfl,HR.out,rfl⟩
    ·have hz2:¬((k:Int)<s.size):=by omega
     have hz3:=hid hz;clear hz
     go_wp2
     go_ret
     exact⟨k,rfl,HR.out,rfl⟩
theorem zmf (l:List UInt8) (k:Nat):((⟨l.toArray⟩:ByteArray).extract 0 k)=⟨(l.take k).toArray⟩:=by
 apply ByteArray.ext
 rw[ByteArray.data_extract]
 simp
theorem zev (l:List UInt8) (k:Nat):((⟨l.toArray⟩:ByteArray).extract k (⟨l.toArray⟩:ByteArray).size)=⟨(l.drop k).toArray⟩:=by
 have:(⟨l.toArray⟩:ByteArray).size=l.length:=by show l.toArray.size=_;simp
 rw[this]
 apply ByteArray.ext
 rw[ByteArray.data_extract]
 simp[List.take_of_length_le]
theorem zmg (b:List UInt8) (k:Nat) (hk:k<b.length) (h1:∀j (hj:j<b.length),j<k->b[j]'hj≠47) (h2:b[k]'hk=47):
 b.takeWhile (· !=47)=b.take k/\(b.dropWhile (· !=47)).tail=b.drop (k+1)/\(47:UInt8)∈b:=by
 have e:b=b.take k++47::b.drop (k+1):=by
  rw[<-h2,List.getElem_cons_drop,List.take_append_drop]
 have hn:(47:UInt8)∉b.take k:=by
  intro h
  obtain⟨j,hj,e⟩:=List.getElem_of_mem h
  rw[List.getElem_take] at e
  simp at hj
  exact h1 j (by omega) (by omega) e
 obtain⟨t1,t2⟩:=zty (b:=b.drop (k+1)) hn
 refine⟨?_,?_,by rw[e];simp⟩
 ·conv=>lhs;rw[e]
  exact t1
 ·conv=>lhs;rw[e]
  rw[t2];rfl
theorem zrt (b:List UInt8) (h1:∀j (hj:j<b.length),b[j]'hj≠47):b.takeWhile (· !=47)=b/\(b.dropWhile (· !=47)).tail=[]/\(47:UInt8)∉b:=by
 have hn:(47:UInt8)∉b:=λh=>by
  obtain⟨j,hj,e⟩:=List.getElem_of_mem h
  exact h1 j hj e
 refine⟨zjy hn,?_,hn⟩
 have:b.dropWhile (· !=47)=[]:=by
  have h2:=List.takeWhile_append_dropWhile (p:=(· !=(47:UInt8))) (l:=b)
  rw[zjy hn] at h2
  exact List.append_right_eq_self.1 h2
 rw[this];rfl
def zeg (m:Bool) (b:List UInt8):Value:=.tuple #[.bool m,St (b.takeWhile (· !=47)),St ((b.dropWhile (· !=47)).tail),.bool (decide ((47:UInt8)∈b))]
theorem zru (b:List UInt8) (hm:b.head? ≠some 45) (hl:b.length<=1000000) (w:zA):
 qJ 105 #[St b] w (zeg false b):=by
 obtain⟨t,ht⟩:∃t:ByteArray,t=⟨b.toArray⟩:=⟨_,rfl⟩
 obtain⟨b1,b2⟩:=zdd b t ht
 have kf:∀k (hk:k<t.size),(t[k]'hk).toNat=47->(∀j (hb:j<t.size),j<k->(t[j]'hb).toNat≠47)->zeg false b=.tuple #[.bool false,.string (t.extract 0 k),.string (t.extract (k+1) t.size),.bool true]:=λk hk h1 h2=>by
  have hk':k<b.length:=by omega
  obtain⟨e1,e2,e3⟩:=zmg b k hk' (λj hj hjk he=>h2 j (by omega) hjk (by rw[b2 j hj (by omega),he];rfl)) (UInt8.toNat_inj.1 (by rw[<-b2 k hk' hk,h1];rfl))
  unfold zeg
  rw[e1,e2,decide_eq_true e3,ht,zmf,zev]
 have kn:(∀j (hb:j<t.size),(t[j]'hb).toNat≠47)->zeg false b=.tuple #[.bool false,.string t,.string ⟨#[]⟩,.bool false]:=λh2=>by
  obtain⟨e1,e2,e3⟩:=zrt b (λj hj he=>h2 j (by omega) (by rw[b2 j hj (by omega),he];rfl))
  unfold zeg
  rw[e1,e2,decide_eq_false e3,ht]
 have KF:=hid kf;have KN:=hid kn
 clear kf kn
 have h0:t.size=0\/0<t.size/\∀hb:0<t.size,(((t[0]'hb).toNat:Int)==45)=false:=by
  by_cases h:t.size=0
  ·exact .inl h
  ·refine .inr ⟨by omega,λhb=>?_⟩
   rw[beq_eq_false_iff_ne]
   intro h'
   have hb0:0<b.length:=by omega
   refine hm ?_
   rw[List.head?_eq_getElem?,yB hb0]
   congr 1
   rw[b2 0 hb0 hb] at h'
   exact UInt8.toNat_inj.1 (by have:(45:UInt8).toNat=45:=rfl;omega)
 have hsz:t.size<=1000000:=by omega
 show zC _ _ #[.string ⟨b.toArray⟩] _ _
 rw[<-ht]
 clear b1 b2 ht hl hm
 generalize zeg false b=v at*
 go_enter Tryz.func105,Tryz.ntmps105
 rcases h0 with h0|⟨h0,h1⟩
 ·have h0':¬(0:Int)<t.size:=by omega
  have h9:=KN.out λj hb=>by omega
  have HN:=hid h9;clear h9
  go_wp2
  refine wp_loop_rounds 1 ?_
  rw[rounds_succ]
  go_wp2
  refine bodyPost_ret (v:=.tuple #[.bool false,.string t,.string ⟨#[]⟩,.bool false]) (by simp[results,Tryz.results105,go_sem]) rfl ⟨by rw[HN.out],zM _ _⟩
 ·have h1':=h1 h0
  have h0':(0:Int)<t.size:=by omega
  clear h1
  go_wp2
  go_loop [8] (λi=>∃k:Nat,k<=t.size/\i=.int .i64 k/\Hid (∀j (hb:j<t.size),j<k->(t[j]'hb).toNat≠47)) (λi=>t.size-(zL i).toNat)
  case atStart=>exact⟨0,zR _,rfl,λj _ h=>by omega⟩
  case round=>
   clear h1'
   obtain⟨k,hk,rfl,hP⟩:=hrel
   by_cases hlt:k<t.size
   ·by_cases d1:(t[k]'hlt).toNat=47
    ·have e1:(((t[k]'hlt).toNat:Int)==47)=true:=by rw[d1];rfl
     have h9:=KF.out k hlt d1 hP.out
     have HN:=hid h9;clear d1 h9
     have hki:(k:Int)<=t.size:=by omega
     have hki1:(k:Int)+1<=t.size:=by omega
     have hk0:(0:Int)<=(k:Int)+1:=by omega
     have hwk:IntKind.i64.wrap ((k:Int)+1)=(k:Int)+1:=zI _ ⟨by omega,by omega⟩
     go_wp2
     (refine wp_region_quiet_lit (by kernel_rfl) (by kernel_rfl) (WQ.out ?_);(repeat(first|(apply WQ.read (by rfl);(focus(rintro W ⟨n,rfl⟩;go_simp;try with_reducible rfl));try simp only[zzQ])|(apply WQ.skip (by rfl);try simp only[zzQ])));refine WQ.nil ?_;rintro _ ⟨nq,rfl⟩)
     go_wp2
     refine bodyPost_ret (v:=.tuple #[.bool false,.string (t.extract 0 k),.string (t.extract (k+1) t.size),.bool true]) (by simp[results,Tryz.results105,go_sem]) rfl ⟨by rw[HN.out],zao (zM _ _) _⟩
    ·have e1:(((t[k]'hlt).toNat:Int)==47)=false:=by rw[beq_eq_false_iff_ne];omega
     have hnext:∀j (hb:j<t.size),j<k+1->(t[j]'hb).toNat≠47:=λj hb h=>by
      by_cases e:j=k
      ·subst e;exact d1
      ·exact hP.out j hb (by omega)
     have HN:=hid hnext;clear hnext d1
     go_wp2
     go_round
     case rel=>exact⟨k+1,by omega,by go_num,HN⟩
     case measure=>simp[zL];omega
   ·have h9:=KN.out λj hb=>hP.out j hb (by omega)
    have HN:=hid h9;clear h9
    go_wp2
    refine bodyPost_ret (v:=.tuple #[.bool false,.string t,.string ⟨#[]⟩,.bool false]) (by simp[results,Tryz.results105,go_sem]) rfl ⟨by rw[HN.out],zM _ _⟩
theorem zrv (b:List UInt8) (hl:b.length<=1000000) (w:zA):
 qJ 105 #[St (45::b)] w (zeg true b):=by
 obtain⟨t,ht⟩:∃t:ByteArray,t=⟨b.toArray⟩:=⟨_,rfl⟩
 obtain⟨b1,b2⟩:=zdd b t ht
 have kf:∀k (hk:k<t.size),(t[k]'hk).toNat=47->(∀j (hb:j<t.size),j<k->(t[j]'hb).toNat≠47)->zeg true b=.tuple #[.bool true,.string (t.extract 0 k),.string (t.extract (k+1) t.size),.bool true]:=λk hk h1 h2=>by
  have hk':k<b.length:=by omega
  obtain⟨e1,e2,e3⟩:=zmg b k hk' (λj hj hjk he=>h2 j (by omega) hjk (by rw[b2 j hj (by omega),he];rfl)) (UInt8.toNat_inj.1 (by rw[<-b2 k hk' hk,h1];rfl))
  unfold zeg
  rw[e1,e2,decide_eq_true e3,ht,zmf,zev]
 have kn:(∀j (hb:j<t.size),(t[j]'hb).toNat≠47)->zeg true b=.tuple #[.bool true,.string t,.string ⟨#[]⟩,.bool false]:=λh2=>by
  obtain⟨e1,e2,e3⟩:=zrt b (λj hj he=>h2 j (by omega) (by rw[b2 j hj (by omega),he];rfl))
  unfold zeg
  rw[e1,e2,decide_eq_false e3,ht]
 have KF:=hid kf;have KN:=hid kn
 clear kf kn
 obtain⟨s,hs⟩:∃s:ByteArray,s=⟨((45:UInt8)::b).toArray⟩:=⟨_,rfl⟩
 obtain⟨s1,s2,s3,s4,s5⟩:=zgu b s hs
 have h45:=s4 s2
 have hsl:(1:Int)<=s.size:=by omega
 have hs0:(0:Int)<s.size:=by omega
 rw[<-ht] at s5
 have hsz:t.size<=1000000:=by omega
 show zC _ _ #[.string ⟨((45:UInt8)::b).toArray⟩] _ _
 rw[<-hs]
 clear b1 b2 ht hl s1 s3 s4 hs
 generalize zeg true b=v at*
 go_enter Tryz.func105,Tryz.ntmps105
 go_wp2
 go_loop [8] (λi=>∃k:Nat,k<=t.size/\i=.int .i64 k/\Hid (∀j (hb:j<t.size),j<k->(t[j]'hb).toNat≠47)) (λi=>t.size-(zL i).toNat)
 case atStart=>exact⟨0,zR _,rfl,λj _ h=>by omega⟩
 case round=>
  clear h45 hsl hs0 s5
  obtain⟨k,hk,rfl,hP⟩:=hrel
  by_cases hlt:k<t.size
  ·by_cases d1:(t[k]'hlt).toNat=47
   ·have e1:(((t[k]'hlt).toNat:Int)==47)=true:=by rw[d1];rfl
    have h9:=KF.out k hlt d1 hP.out
    have HN:=hid h9;clear d1 h9
    have hki:(k:Int)<=t.size:=by omega
    have hki1:(k:Int)+1<=t.size:=by omega
    have hk0:(0:Int)<=(k:Int)+1:=by omega
    have hwk:IntKind.i64.wrap ((k:Int)+1)=(k:Int)+1:=zI _ ⟨by omega,by omega⟩
    go_wp2
    (refine wp_region_quiet_lit (by kernel_rfl) (by kernel_rfl) (WQ.out ?_);(repeat(first|(apply WQ.read (by rfl);(focus(rintro W ⟨n,rfl⟩;go_simp;try with_reducible rfl));try simp only[zzQ])|(apply WQ.skip (by rfl);try simp only[zzQ])));refine WQ.nil ?_;rintro _ ⟨nq,rfl⟩)
    go_wp2
    refine bodyPost_ret (v:=.tuple #[.bool true,.string (t.extract 0 k),.string (t.extract (k+1) t.size),.bool true]) (by simp[results,Tryz.results105,go_sem]) rfl ⟨by rw[HN.out],zao (zM _ _) _⟩
   ·have e1:(((t[k]'hlt).toNat:Int)==47)=false:=by rw[beq_eq_false_iff_ne];omega
    have hnext:∀j (hb:j<t.size),j<k+1->(t[j]'hb).toNat≠47:=λj hb h=>by
     by_cases e:j=k
     ·subst e;exact d1
     ·exact hP.out j hb (by omega)
    have HN:=hid hnext;clear hnext d1
    go_wp2
    go_round
    case rel=>exact⟨k+1,by omega,by go_num,HN⟩
    case measure=>simp[zL];omega
  ·have h9:=KN.out λj hb=>hP.out j hb (by omega)
   have HN:=hid h9;clear h9
   go_wp2
   refine bodyPost_ret (v:=.tuple #[.bool true,.string t,.string ⟨#[]⟩,.bool false]) (by simp[results,Tryz.results105,go_sem]) rfl ⟨by rw[HN.out],zM _ _⟩
theorem zn0 (l:List UInt8) (hl:l.length<=1000000) (w:zA):
 qJ 105 #[St l] w (.tuple #[.bool (decide (l.head? =some 45)),St (upS l),St (dnS l),.bool (decide ((47:UInt8)∈bare l))]):=by
 rcases zhb l with⟨h1,h2⟩|⟨h1,h2⟩
 ·rw[decide_eq_true h1]
  have:=zrv (bare l) (by have:=congrArg List.length h2;simp at this;omega) w
  rw[<-h2] at this
  exact this
 ·rw[decide_eq_false h1]
  have:=zru (bare l) (by rw[<-h2];exact h1) (by rw[<-h2];exact hl) w
  rw[<-h2] at this
  unfold upS dnS
  rw[<-h2]
  exact this
theorem ziz (n:Nat) (hl:(zD n).length<=300) (w:zA):
 zC zF 197 #[St (zD n)] w λe w'=>e=.returned (.int .i64 0)/\w'=w:=by
 obtain⟨s,hs⟩:∃s:ByteArray,s=⟨(zD n++[]).toArray⟩:=⟨_,rfl⟩
 obtain⟨b1,b2, -⟩:=zii (zd7 n) s hs
 have hzero:(zD n).length<=1\/∀hb:0<s.size,(s[0]'hb).toNat≠48:=zjz n [] s hs
 have hb2:∀k (hb:k<s.size),48<=(s[k]'hb).toNat/\(s[k]'hb).toNat<=57:=λk hb=>⟨(b2 k (by simp at b1;omega) hb).1,(b2 k (by simp at b1;omega) hb).2.1⟩
 have hpos:1<=(zD n).length:=by have:=zbn (n:Int);unfold digs at this;simpa using this
 rw[List.append_nil] at hs
 have hlen:(zD n).length=s.size:=by rw[b1];simp
 show zC _ _ #[.string ⟨(zD n).toArray⟩] _ _
 rw[hlen] at hl hzero hpos
 rw[<-hs]
 have B2:=hid hb2
 clear b1 b2 hb2 hs hlen
 have h0:0<s.size:=by omega
 have h0':(0:Int)<s.size:=by omega
 have hz:((0:Int)==s.size)=false:=by rw[beq_eq_false_iff_ne];omega
 have h45:(((s[0]'h0).toNat:Int)==45)=false:=by rw[beq_eq_false_iff_ne];have:=(B2.out 0 h0).1;omega
 have hf:(((s[0]'h0).toNat:Int)==48)=true/\¬(1:Int)<s.size\/(((s[0]'h0).toNat:Int)==48)=false:=by
  by_cases h:(s[0]'h0).toNat=48
  ·left
   refine⟨by rw[h];rfl,?_⟩
   rcases hzero with h1|h1
   ·omega
   ·exact absurd h (h1 h0)
  ·right;rw[beq_eq_false_iff_ne];omega
 have hwl:IntKind.i64.wrap ((s.size:Int)-0)=(s.size:Int):=by rw[Int.sub_zero];exact zI _ ⟨by omega,by omega⟩
 have hwl2:IntKind.i64.wrap (s.size:Int)=(s.size:Int):=zI _ ⟨by omega,by omega⟩
 have h300:¬(300:Int)<s.size:=by omega
 clear hzero
 go_enter Tryz.func197,Tryz.ntmps197
 rcases hf with⟨f1,f2⟩|f1
 all_goals (
 go_wp2
 go_loop [4] (λi=>∃k:Nat,k<=s.size/\i=.int .i64 k) (λi=>s.size-(zL i).toNat)
 case atStart=>exact⟨0,zR _,rfl⟩
 case round=>
  obtain⟨k,hk,rfl⟩:=hrel
  by_cases hlt:k<s.size
  ·obtain⟨c1,c2⟩:=B2.out k hlt
   have d1:(48:Int)<=(s[k].toNat:Int):=by omega
   have d2:(s[k].toNat:Int)<=57:=by omega
   go_wp2
   go_round
   case rel=>exact⟨k+1,by omega,by go_num⟩
   case measure=>simp[zL];omega
  ·go_wp2
   go_ret
   first|exact⟨rfl,rfl⟩|exact rfl|trivial)
theorem zg3 {l:List UInt8} (h:∀c∈l,48<=c.toNat/\c.toNat<=57) {k:Nat} (hk:k<=17):val (l.take k)<100000000000000000:=by
 have h1:=zjc (l.take k) (λc hc=>h c (List.mem_of_mem_take hc))
 have h2:(10:Nat)^(l.take k).length<=10^17:=Nat.pow_le_pow_right (by omega) (by simp;omega)
 exact Nat.lt_of_lt_of_le h1 h2
theorem zi0 (n:Nat) (hl:(zD n).length<=17) (w:zA):
 zC zF 198 #[St (zD n)] w λe w'=>e=.returned (.tuple #[I n,.bool true])/\w'=w:=by
 obtain⟨l,hll⟩:∃l,l=zD n:=⟨_,rfl⟩
 have hd:=zan n
 have hvn:=zb2 n
 have hpos:1<=(zD n).length:=by have:=zbn (n:Int);unfold digs at this;simpa using this
 rw[<-hll] at hd hvn hl hpos⊢
 obtain⟨s,hs⟩:∃s:ByteArray,s=⟨l.toArray⟩:=⟨_,rfl⟩
 obtain⟨b1,b2⟩:=zdd l s hs
 have hvt:=λk hk=>zg3 (l:=l) hd (k:=k) hk
 have hst:∀k (hb:k<s.size),48<=(s[k]'hb).toNat/\(s[k]'hb).toNat<=57/\val (l.take (k+1))=10*val (l.take k)+((s[k]'hb).toNat-48):=λk hb=>by
  have hk:k<l.length:=by omega
  rw[b2 k hk hb,List.take_succ_eq_append_getElem hk,zde]
  exact⟨(hd _ (zY hk)).1,(hd _ (zY hk)).2,rfl⟩
 have hfull:val (l.take s.size)=n:=by rw[b1,List.take_length];exact hvn
 show zC _ _ #[.string ⟨l.toArray⟩] _ _
 rw[<-hs]
 have hs17:s.size<=17:=by omega
 have hs0:0<s.size:=by omega
 generalize hvf:(λk=>val (l.take k))=vf at*
 have hvt':∀k,k<=17->vf k<100000000000000000:=by rw[<-hvf];exact hvt
 have hst':∀k (hb:k<s.size),48<=(s[k]'hb).toNat/\(s[k]'hb).toNat<=57/\vf (k+1)=10*vf k+((s[k]'hb).toNat-48):=by rw[<-hvf];exact hst
 have hfull':vf s.size=n:=by rw[<-hvf];exact hfull
 have hv0:vf 0=0:=by rw[<-hvf];rfl
 have VT:=hid hvt';have ST:=hid hst';have HF:=hid hfull';have V0:=hid hv0
 have h45:(((s[0]'hs0).toNat:Int)==45)=false:=by rw[beq_eq_false_iff_ne];have:=(hst' 0 hs0).1;omega
 clear hvt' hst' hfull' hv0 hvt hst hfull hvf b1 b2 hs hd hl hll hvn hpos
 go_enter Tryz.func198,Tryz.ntmps198
 go_wp2
 go_loop [4,5] (λa i=>∃k:Nat,k<=s.size/\i=.int .i64 k/\a=.int .i64 (vf k:Nat)) (λ_ i=>s.size-(zL i).toNat)
 case atStart=>exact⟨0,zR _,rfl,by rw[V0.out];rfl⟩
 case round=>
  obtain⟨k,hk,rfl,rfl⟩:=hrel
  by_cases hlt:k<s.size
  ·obtain⟨c1,c2,c3⟩:=ST.out k hlt
   have hv:=VT.out k (by omega)
   generalize vf k=v at*
   have C3:=hid c3;clear c3
   have d1:(48:Int)<=(s[k].toNat:Int):=by omega
   have d2:(s[k].toNat:Int)<=57:=by omega
   have d3:((s[k].toNat:Int) !=45)=true:=by simp;omega
   go_wp2
   go_round
   case rel=>exact⟨k+1,by omega,by go_num,by rw[C3.out];show Value.int .i64 _=Value.int .i64 _;congr 1;omega⟩
   case measure=>simp[zL];omega
  ·have hk':k=s.size:=by omega
   have HK:=hid hk';clear hk'
   go_wp2
   go_ret2
   exact⟨by rw[HK.out,HF.out];rfl,rfl⟩
theorem zxf (l:List UInt8):okS l↔zds (upS l)/\¬(l.head? =some 45/\upS l=[48])/\((47:UInt8)∉bare l\/(zds (dnS l)/\dnS l≠[48]/\dnS l≠[49]/\Nat.gcd (val (upS l)) (val (dnS l))=1)):=by
 unfold okS hasS
 constructor
 ·rintro⟨h1,h2,h3⟩
  refine⟨h1,h2,?_⟩
  by_cases h:(47:UInt8)∈bare l
  ·exact .inr (h3 h)
  ·exact .inl h
 ·rintro⟨h1,h2,h3⟩
  refine⟨h1,h2,λh=>?_⟩
  rcases h3 with h3|h3
  ·exact absurd h h3
  ·exact h3
theorem zgl (l:List UInt8) (s:ByteArray) (hs:s=⟨l.toArray⟩) (k:List UInt8):(s.toList==k)=decide (l=k):=by
 rw[hs,ByteArray.toList_eq]
 by_cases h:l=k
 ·subst h;simp
 ·rw[decide_eq_false h];simpa using h
theorem ztd (x u v:ByteArray) (m sl b1 b2 z1 z2 z3:Bool) (g:Nat) (Q:Prop) (hu:u.size<=300) (hv:v.size<=300)
 (HQ:Hid (Q↔b1=true/\¬(m=true/\z3=true)/\(sl=false\/(b2=true/\z1=false/\z2=false/\g=1))))
 (e1:(v.toList==[48])=z1) (e2:(v.toList==[49])=z2) (e3:(u.toList==[48])=z3)
 (SP:Hid (∀W:zA,qJ 105 #[.string x] W (.tuple #[.bool m,.string u,.string v,.bool sl])))
 (D1:Hid (∀W:zA,zC zF 106 #[.string u] W λe w'=>e=.returned (.bool b1)/\w'=W))
 (D2:Hid (∀W:zA,zC zF 106 #[.string v] W λe w'=>e=.returned (.bool b2)/\w'=W))
 (SG:Hid (b1=true->b2=true->u.size<=9->v.size<=9->∃n d:Nat,(∀W:zA,zC zF 108 #[.string u] W λe w'=>e=.returned (I n)/\w'=W)/\(∀W:zA,zC zF 108 #[.string v] W λe w'=>e=.returned (I d)/\w'=W)/\
   ∀W:zA,qJ 107 #[I n,I d] W (I g)))
 (BG:Hid (b1=true->b2=true->∃t:ByteArray,(t.toList==[49])=decide (g=1)/\qK 109 #[.string u,.string v] (.tuple #[.string t,.int .i64 0])))
 (w:zA) (HW:Hid (Wd w)):
 zC zF 57 #[.string x] w λe w'=>∃r:Int,e=.returned (.int .i64 r)/\(r=0↔Q)/\Below w.heap.size w w':=by
 have u300:¬(300:Int)<u.size:=by omega
 have v300:¬(300:Int)<v.size:=by omega
 go_enter Tryz.func57,Tryz.ntmps57
 go_wp2_with fail
 refine(SP.out w).mono ?_
 rintro e w1 ⟨rfl,hB⟩
 go_wp2_with fail
 refine(D1.out w1).mono ?_
 rintro e w2 ⟨rfl,hw⟩
 have hw2:=hw.symm;subst hw2;clear hw
 cases b1
 ·have HN:=hid (by rw[HQ.out];simp:¬Q)
  go_wp2_with fail
  all_goals first|exact(zzU ‹_›).elim|skip
  go_ret
  exact⟨11,rfl,⟨λh=>by simp at h,λh=>absurd h HN.out⟩,hB⟩
 ·cases sl
  ·cases m
   ·have HN:=hid (by rw[HQ.out];simp:Q)
    go_wp2_with fail
    all_goals first|exact(zzU ‹_›).elim|skip
    go_ret
    exact⟨0,rfl,⟨λ_=>HN.out,λ_=>rfl⟩,hB⟩
   ·cases z3
    ·have HN:=hid (by rw[HQ.out];simp:Q)
     go_wp2_with fail
     all_goals first|exact(zzU ‹_›).elim|skip
     go_ret
     exact⟨0,rfl,⟨λ_=>HN.out,λ_=>rfl⟩,hB⟩
    ·have HN:=hid (by rw[HQ.out];simp:¬Q)
     go_wp2_with fail
     all_goals first|exact(zzU ‹_›).elim|skip
     go_ret
     exact⟨11,rfl,⟨λh=>by simp at h,λh=>absurd h HN.out⟩,hB⟩
  ·go_wp2_with fail
   all_goals first|exact(zzU ‹_›).elim|skip
   refine(D2.out _).mono ?_
   rintro e w2 ⟨rfl,hw⟩
   have hw2:=hw.symm;subst hw2;clear hw
   cases b2
   ·have HN:=hid (by rw[HQ.out];simp:¬Q)
    go_wp2_with fail
    all_goals first|exact(zzU ‹_›).elim|skip
    go_ret
    exact⟨11,rfl,⟨λh=>by simp at h,λh=>absurd h HN.out⟩,hB⟩
   ·cases z1
    ·cases z2
     ·cases m
      ·by_cases h9:u.size<=9
       ·by_cases k9:v.size<=9
        ·have hu9:(u.size:Int)<=9:=by omega
         have hv9:(v.size:Int)<=9:=by omega
         obtain⟨n,d,s1,s2,s3⟩:=SG.out (by simp) (by simp) (by omega) (by omega)
         have S1:=hid s1;have S2:=hid s2;have S3:=hid s3;clear s1 s2 s3
         go_wp2_with fail
         all_goals first|exact(zzU ‹_›).elim|skip
         refine(S1.out _).mono ?_
         rintro e w2 ⟨rfl,hw⟩
         have hw2:=hw.symm;subst hw2;clear hw
         go_wp2_with fail
         refine(S2.out _).mono ?_
         rintro e w2 ⟨rfl,hw⟩
         have hw2:=hw.symm;subst hw2;clear hw
         go_wp2_with fail
         refine(S3.out _).mono ?_
         rintro e w2 ⟨rfl,hb2⟩
         have hB:=hB.trans (hb2.mono hB.size)
         clear hb2
         by_cases hg:g=1
         ·have HN:=hid (by rw[HQ.out];simp[hg]:Q)
          have hgb:((g:Int) !=1)=false:=by subst hg;rfl
          clear hg
          go_wp2_with fail
          go_ret
          exact⟨0,rfl,⟨λ_=>HN.out,λ_=>rfl⟩,hB⟩
         ·have HN:=hid (by rw[HQ.out];simp[hg]:¬Q)
          have hgb:((g:Int) !=1)=true:=by simp;omega
          clear hg
          go_wp2_with fail
          go_ret
          exact⟨11,rfl,⟨λh=>by simp at h,λh=>absurd h HN.out⟩,hB⟩
        ·have hu9:(u.size:Int)<=9:=by omega
         have hv9:¬(v.size:Int)<=9:=by omega
         obtain⟨t,t1,t2⟩:=BG.out (by simp) (by simp)
         have T2:=hid (t2 w1 (HW.out.below hB));clear t2
         go_wp2_with fail
         all_goals first|exact(zzU ‹_›).elim|skip
         refine T2.out.mono ?_
         rintro e w2 ⟨rfl,hb2⟩
         have hB:=hB.trans (hb2.mono hB.size)
         clear hb2 T2
         by_cases hg:g=1
         ·have HN:=hid (by rw[HQ.out];simp[hg]:Q)
          rw[decide_eq_true hg] at t1
          clear hg
          go_wp2_with fail
          go_ret
          exact⟨0,rfl,⟨λ_=>HN.out,λ_=>rfl⟩,hB⟩
         ·have HN:=hid (by rw[HQ.out];simp[hg]:¬Q)
          rw[decide_eq_false hg] at t1
          clear hg
          go_wp2_with fail
          go_ret
          exact⟨11,rfl,⟨λh=>by simp at h,λh=>absurd h HN.out⟩,hB⟩
       ·have hu9:¬(u.size:Int)<=9:=by omega
        obtain⟨t,t1,t2⟩:=BG.out (by simp) (by simp)
        have T2:=hid (t2 w1 (HW.out.below hB));clear t2
        go_wp2_with fail
        all_goals first|exact(zzU ‹_›).elim|skip
        refine T2.out.mono ?_
        rintro e w2 ⟨rfl,hb2⟩
        have hB:=hB.trans (hb2.mono hB.size)
        clear hb2 T2
        by_cases hg:g=1
        ·have HN:=hid (by rw[HQ.out];simp[hg]:Q)
         rw[decide_eq_true hg] at t1
         clear hg
         go_wp2_with fail
         go_ret
         exact⟨0,rfl,⟨λ_=>HN.out,λ_=>rfl⟩,hB⟩
        ·have HN:=hid (by rw[HQ.out];simp[hg]:¬Q)
         rw[decide_eq_false hg] at t1
         clear hg
         go_wp2_with fail
         go_ret
         exact⟨11,rfl,⟨λh=>by simp at h,λh=>absurd h HN.out⟩,hB⟩
      ·cases z3
       ·by_cases h9:u.size<=9
        ·by_cases k9:v.size<=9
         ·have hu9:(u.size:Int)<=9:=by omega
          have hv9:(v.size:Int)<=9:=by omega
          obtain⟨n,d,s1,s2,s3⟩:=SG.out (by simp) (by simp) (by omega) (by omega)
          have S1:=hid s1;have S2:=hid s2;have S3:=hid s3;clear s1 s2 s3
          go_wp2_with fail
          all_goals first|exact(zzU ‹_›).elim|skip
          refine(S1.out _).mono ?_
          rintro e w2 ⟨rfl,hw⟩
          have hw2:=hw.symm;subst hw2;clear hw
          go_wp2_with fail
          refine(S2.out _).mono ?_
          rintro e w2 ⟨rfl,hw⟩
          have hw2:=hw.symm;subst hw2;clear hw
          go_wp2_with fail
          refine(S3.out _).mono ?_
          rintro e w2 ⟨rfl,hb2⟩
          have hB:=hB.trans (hb2.mono hB.size)
          clear hb2
          by_cases hg:g=1
          ·have HN:=hid (by rw[HQ.out];simp[hg]:Q)
           have hgb:((g:Int) !=1)=false:=by subst hg;rfl
           clear hg
           go_wp2_with fail
           go_ret
           exact⟨0,rfl,⟨λ_=>HN.out,λ_=>rfl⟩,hB⟩
          ·have HN:=hid (by rw[HQ.out];simp[hg]:¬Q)
           have hgb:((g:Int) !=1)=true:=by simp;omega
           clear hg
           go_wp2_with fail
           go_ret
           exact⟨11,rfl,⟨λh=>by simp at h,λh=>absurd h HN.out⟩,hB⟩
         ·have hu9:(u.size:Int)<=9:=by omega
          have hv9:¬(v.size:Int)<=9:=by omega
          obtain⟨t,t1,t2⟩:=BG.out (by simp) (by simp)
          have T2:=hid (t2 w1 (HW.out.below hB));clear t2
          go_wp2_with fail
          all_goals first|exact(zzU ‹_›).elim|skip
          refine T2.out.mono ?_
          rintro e w2 ⟨rfl,hb2⟩
          have hB:=hB.trans (hb2.mono hB.size)
          clear hb2 T2
          by_cases hg:g=1
          ·have HN:=hid (by rw[HQ.out];simp[hg]:Q)
           rw[decide_eq_true hg] at t1
           clear hg
           go_wp2_with fail
           go_ret
           exact⟨0,rfl,⟨λ_=>HN.out,λ_=>rfl⟩,hB⟩
          ·have HN:=hid (by rw[HQ.out];simp[hg]:¬Q)
           rw[decide_eq_false hg] at t1
           clear hg
           go_wp2_with fail
           go_ret
           exact⟨11,rfl,⟨λh=>by simp at h,λh=>absurd h HN.out⟩,hB⟩
        ·have hu9:¬(u.size:Int)<=9:=by omega
         obtain⟨t,t1,t2⟩:=BG.out (by simp) (by simp)
         have T2:=hid (t2 w1 (HW.out.below hB));clear t2
         go_wp2_with fail
         all_goals first|exact(zzU ‹_›).elim|skip
         refine T2.out.mono ?_
         rintro e w2 ⟨rfl,hb2⟩
         have hB:=hB.trans (hb2.mono hB.size)
         clear hb2 T2
         by_cases hg:g=1
         ·have HN:=hid (by rw[HQ.out];simp[hg]:Q)
          rw[decide_eq_true hg] at t1
          clear hg
          go_wp2_with fail
          go_ret
          exact⟨0,rfl,⟨λ_=>HN.out,λ_=>rfl⟩,hB⟩
         ·have HN:=hid (by rw[HQ.out];simp[hg]:¬Q)
          rw[decide_eq_false hg] at t1
          clear hg
          go_wp2_with fail
          go_ret
          exact⟨11,rfl,⟨λh=>by simp at h,λh=>absurd h HN.out⟩,hB⟩
       ·have HN:=hid (by rw[HQ.out];simp:¬Q)
        go_wp2_with fail
        all_goals first|exact(zzU ‹_›).elim|skip
        go_ret
        exact⟨11,rfl,⟨λh=>by simp at h,λh=>absurd h HN.out⟩,hB⟩
     ·have HN:=hid (by rw[HQ.out];simp:¬Q)
      go_wp2_with fail
      all_goals first|exact(zzU ‹_›).elim|skip
      go_ret
      exact⟨11,rfl,⟨λh=>by simp at h,λh=>absurd h HN.out⟩,hB⟩
    ·have HN:=hid (by rw[HQ.out];simp:¬Q)
     go_wp2_with fail
     all_goals first|exact(zzU ‹_›).elim|skip
     go_ret
     exact⟨11,rfl,⟨λh=>by simp at h,λh=>absurd h HN.out⟩,hB⟩
theorem z15 (g:Nat):zD g=[49]↔g=1:=by
 have e:zD 1=[49]:=by rw[zae (by omega)];rfl
 constructor
 ·intro h;exact zfk (h.trans e.symm)
 ·rintro rfl;exact e
structure CutQ (s sn sd own:ByteArray) (is neg:Bool):Prop where
 CUT:Hid (∀W:zA,Wd W->zC zF 155 #[.string s,.string ⟨#[47]⟩] W λe w'=>e=.returned (.tuple #[.string sn,.string sd,.bool is])/\∃n,w'=W.drewN n)
 CP:Hid (∀W:zA,zC zF 124 #[.string sn,.string ⟨#[45]⟩] W λe w'=>e=.returned (.tuple #[.string own,.bool neg])/\w'=W)
def DigY (t:ByteArray):Prop:=((t.size:Int)==0)=false/\∀W:zA,zC zF 156 #[.string t] W λe w'=>e=.returned (.int .i64 (t.size:Int))/\w'=W
def DigN (t:ByteArray):Prop:=∀W:zA,zC zF 156 #[.string t] W λe w'=>∃r:Nat,e=.returned (.int .i64 (r:Int))/\(((r:Int)==0)=true\/(((r:Int)==0)=false/\(r:Int)<(t.size:Int)))/\w'=W
theorem yb9 (t:ByteArray) (ht:t.data.toList.length<=1000000):(zds t.data.toList/\DigY t)\/(¬zds t.data.toList/\DigN t):=by
 have hsz:t.size=t.data.toList.length:=by simp
 have hst:(.string t:Value)=St t.data.toList:=rfl
 by_cases h:zds t.data.toList
 ·refine .inl ⟨h,?_,λW=>?_⟩
  ·rw[beq_eq_false_iff_ne,hsz]
   have:=List.length_pos_iff.2 h.1
   omega
  ·rw[hst]
   refine(z10 _ ht W).mono ?_
   rintro e w' ⟨r,rfl,⟨_,h2⟩,h3⟩
   have:=(h2.2 h).2
   exact⟨by rw[hsz,this],h3⟩
 ·refine .inr ⟨h,λW=>?_⟩
  rw[hst]
  refine(z10 _ ht W).mono ?_
  rintro e w' ⟨r,rfl,⟨h1,h2⟩,h3⟩
  refine⟨r,rfl,?_,h3⟩
  by_cases h0:r=0
  ·exact .inl (by simp[h0])
  ·refine .inr ⟨by rw[beq_eq_false_iff_ne];omega,?_⟩
   have:r≠t.data.toList.length:=λe=>h (h2.1 ⟨h0,e⟩)
   rw[hsz];omega
theorem ycn (s sn sd own:ByteArray) (is:Bool) (neg:Bool) (q:CutQ s sn sd own is neg) (H1:Hid (DigN own)) (w:zA) (HW:Hid (Wd w)):
 qJ 102 #[.string s] w (.tuple #[.agg #[St [],St []],.bool false]):=by
 obtain⟨CUT,CP⟩:=q
 all_goals
  go_enter Tryz.func102,Tryz.ntmps102
  go_wp2_with fail
  refine(CUT.out _ (HW.out.below ((zM _ w).alloc (zN _) _))).mono ?_
  rintro e w1 ⟨rfl,nd,rfl⟩
  go_wp2_with fail
  refine(CP.out _).mono ?_
  rintro e w1 ⟨rfl,rfl⟩
  go_wp2_with fail
  refine(H1.out _).mono ?_
  rintro e w1 ⟨r,rfl,hz,rfl⟩
  rcases hz with h1|⟨h1,h2⟩
  all_goals
   go_wp2_with fail
   refine bodyPost_ret (v:=.tuple #[.agg #[St [],St []],.bool false]) (by simp[results,Tryz.results102,go_sem]) rfl ⟨rfl,?_⟩
   repeat(first|exact zM _ _|refine Below.alloc ?_ (by simp) _|refine zao ?_ _|refine Below.setCell ?_ (by simp) _)
theorem yco (s sn sd own:ByteArray) (is:Bool) (neg:Bool) (q:CutQ s sn sd own is neg) (H1:Hid (DigY own)) (h3:neg=true) (h4:(own.toList==[48])=true) (w:zA) (HW:Hid (Wd w)):
 qJ 102 #[.string s] w (.tuple #[.agg #[St [],St []],.bool false]):=by
 obtain⟨CUT,CP⟩:=q
 obtain⟨h1,D1⟩:=H1.out
 have D1:=hid D1
 have h2:¬(own.size:Int)<(own.size:Int):=by omega
 subst h3
 all_goals
  go_enter Tryz.func102,Tryz.ntmps102
  go_wp2_with fail
  refine(CUT.out _ (HW.out.below ((zM _ w).alloc (zN _) _))).mono ?_
  rintro e w1 ⟨rfl,nd,rfl⟩
  go_wp2_with fail
  refine(CP.out _).mono ?_
  rintro e w1 ⟨rfl,rfl⟩
  go_wp2_with fail
  refine(D1.out _).mono ?_
  rintro e w1 ⟨rfl,rfl⟩
  go_wp2_with fail
  refine bodyPost_ret (v:=.tuple #[.agg #[St [],St []],.bool false]) (by simp[results,Tryz.results102,go_sem]) rfl ⟨rfl,?_⟩
  repeat(first|exact zM _ _|refine Below.alloc ?_ (by simp) _|refine zao ?_ _|refine Below.setCell ?_ (by simp) _)
theorem ycp (s sn sd own:ByteArray) (neg:Bool) (q:CutQ s sn sd own false neg) (H1:Hid (DigY own)) (hz:neg=false\/(neg=true/\(own.toList==[48])=false)) (w:zA) (HW:Hid (Wd w)):
 qJ 102 #[.string s] w (.tuple #[.agg #[.string sn,St [49]],.bool true]):=by
 obtain⟨CUT,CP⟩:=q
 obtain⟨h1,D1⟩:=H1.out
 have D1:=hid D1
 have h2:¬(own.size:Int)<(own.size:Int):=by omega
 rcases hz with rfl|⟨rfl,h4⟩
 all_goals
  go_enter Tryz.func102,Tryz.ntmps102
  go_wp2_with fail
  refine(CUT.out _ (HW.out.below ((zM _ w).alloc (zN _) _))).mono ?_
  rintro e w1 ⟨rfl,nd,rfl⟩
  go_wp2_with fail
  refine(CP.out _).mono ?_
  rintro e w1 ⟨rfl,rfl⟩
  go_wp2_with fail
  refine(D1.out _).mono ?_
  rintro e w1 ⟨rfl,rfl⟩
  go_wp2_with fail
  refine bodyPost_ret (v:=.tuple #[.agg #[.string sn,St [49]],.bool true]) (by simp[results,Tryz.results102,go_sem]) rfl ⟨rfl,?_⟩
  repeat(first|exact zM _ _|refine Below.alloc ?_ (by simp) _|refine zao ?_ _|refine Below.setCell ?_ (by simp) _)
theorem ycq (s sn sd own:ByteArray) (neg:Bool) (q:CutQ s sn sd own true neg) (H1:Hid (DigY own)) (hz:neg=false\/(neg=true/\(own.toList==[48])=false)) (H2:Hid (DigN sd)) (w:zA) (HW:Hid (Wd w)):
 qJ 102 #[.string s] w (.tuple #[.agg #[St [],St []],.bool false]):=by
 obtain⟨CUT,CP⟩:=q
 obtain⟨h1,D1⟩:=H1.out
 have D1:=hid D1
 have h2:¬(own.size:Int)<(own.size:Int):=by omega
 rcases hz with rfl|⟨rfl,h4⟩
 all_goals
  go_enter Tryz.func102,Tryz.ntmps102
  go_wp2_with fail
  refine(CUT.out _ (HW.out.below ((zM _ w).alloc (zN _) _))).mono ?_
  rintro e w1 ⟨rfl,nd,rfl⟩
  go_wp2_with fail
  refine(CP.out _).mono ?_
  rintro e w1 ⟨rfl,rfl⟩
  go_wp2_with fail
  refine(D1.out _).mono ?_
  rintro e w1 ⟨rfl,rfl⟩
  go_wp2_with fail
  refine(H2.out _).mono ?_
  rintro e w1 ⟨r,rfl,hz,rfl⟩
  rcases hz with k1|⟨k1,k2⟩
  all_goals
   go_wp2_with fail
   refine bodyPost_ret (v:=.tuple #[.agg #[St [],St []],.bool false]) (by simp[results,Tryz.results102,go_sem]) rfl ⟨rfl,?_⟩
   repeat(first|exact zM _ _|refine Below.alloc ?_ (by simp) _|refine zao ?_ _|refine Below.setCell ?_ (by simp) _)
theorem yaa (s sn sd own:ByteArray) (neg:Bool) (q:CutQ s sn sd own true neg) (H1:Hid (DigY own)) (hz:neg=false\/(neg=true/\(own.toList==[48])=false)) (H2:Hid (DigY sd)) (hy:(sd.toList==[48])=true\/((sd.toList==[48])=false/\(sd.toList==[49])=true)) (w:zA) (HW:Hid (Wd w)):
 qJ 102 #[.string s] w (.tuple #[.agg #[St [],St []],.bool false]):=by
 obtain⟨CUT,CP⟩:=q
 obtain⟨h1,D1⟩:=H1.out
 have D1:=hid D1
 have h2:¬(own.size:Int)<(own.size:Int):=by omega
 obtain⟨k1,D2⟩:=H2.out
 have D2:=hid D2
 have k2:¬(sd.size:Int)<(sd.size:Int):=by omega
 rcases hz with rfl|⟨rfl,h4⟩<;>rcases hy with k3|⟨k3,k4⟩
 all_goals
  go_enter Tryz.func102,Tryz.ntmps102
  go_wp2_with fail
  refine(CUT.out _ (HW.out.below ((zM _ w).alloc (zN _) _))).mono ?_
  rintro e w1 ⟨rfl,nd,rfl⟩
  go_wp2_with fail
  refine(CP.out _).mono ?_
  rintro e w1 ⟨rfl,rfl⟩
  go_wp2_with fail
  refine(D1.out _).mono ?_
  rintro e w1 ⟨rfl,rfl⟩
  go_wp2_with fail
  refine(D2.out _).mono ?_
  rintro e w1 ⟨rfl,rfl⟩
  go_wp2_with fail
  refine bodyPost_ret (v:=.tuple #[.agg #[St [],St []],.bool false]) (by simp[results,Tryz.results102,go_sem]) rfl ⟨rfl,?_⟩
  repeat(first|exact zM _ _|refine Below.alloc ?_ (by simp) _|refine zao ?_ _|refine Below.setCell ?_ (by simp) _)
theorem ycr (s sn sd own:ByteArray) (neg:Bool) (q:CutQ s sn sd own true neg) (H1:Hid (DigY own)) (hz:neg=false\/(neg=true/\(own.toList==[48])=false)) (H2:Hid (DigY sd)) (k3:(sd.toList==[48])=false) (k4:(sd.toList==[49])=false) (w:zA) (HW:Hid (Wd w)):
 qJ 102 #[.string s] w (.tuple #[.agg #[.string sn,.string sd],.bool true]):=by
 obtain⟨CUT,CP⟩:=q
 obtain⟨h1,D1⟩:=H1.out
 have D1:=hid D1
 have h2:¬(own.size:Int)<(own.size:Int):=by omega
 obtain⟨k1,D2⟩:=H2.out
 have D2:=hid D2
 have k2:¬(sd.size:Int)<(sd.size:Int):=by omega
 rcases hz with rfl|⟨rfl,h4⟩
 all_goals
  go_enter Tryz.func102,Tryz.ntmps102
  go_wp2_with fail
  refine(CUT.out _ (HW.out.below ((zM _ w).alloc (zN _) _))).mono ?_
  rintro e w1 ⟨rfl,nd,rfl⟩
  go_wp2_with fail
  refine(CP.out _).mono ?_
  rintro e w1 ⟨rfl,rfl⟩
  go_wp2_with fail
  refine(D1.out _).mono ?_
  rintro e w1 ⟨rfl,rfl⟩
  go_wp2_with fail
  refine(D2.out _).mono ?_
  rintro e w1 ⟨rfl,rfl⟩
  go_wp2_with fail
  refine bodyPost_ret (v:=.tuple #[.agg #[.string sn,.string sd],.bool true]) (by simp[results,Tryz.results102,go_sem]) rfl ⟨rfl,?_⟩
  repeat(first|exact zM _ _|refine Below.alloc ?_ (by simp) _|refine zao ?_ _|refine Below.setCell ?_ (by simp) _)
end
end Go.Proofs.YthfpmfdiamldoaaGreatDoor
