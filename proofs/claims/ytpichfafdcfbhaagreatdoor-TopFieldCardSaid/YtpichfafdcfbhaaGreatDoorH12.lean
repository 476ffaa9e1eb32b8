/- root.native, negative, check. -/
import Derived.Test.YtpichfafdcfbhaaGreatDoorH11
import Derived.Test.YtpichfafdcfbhaaGreatDoorRows
import Derived.ProofKit
import Derived.Lib.LaidU8
import Derived.HandedShaped
import Derived.Lay
import Derived.Shelf.Vars
import Derived.Carry
import Derived.Deep.Quiet
set_option maxRecDepth 100000
set_option maxHeartbeats 8000000
open Go renaming World → zA, Calls → zC
open Go.Lib renaming decDigits → zD
open Go.Proofs.Tryz renaming prog → zF
open Go.IntWalk renaming i64_in → zI
open Go.Joins renaming cell_of_block → zJ
open Go.RowKit renaming intOf → zL
open Go.RowKit.Below renaming refl → zM
open Nat renaming le_refl → zN, zero_le → zR
open List renaming length_map → zV, getElem_mem → zY, getElem?_eq_getElem → yB
namespace Go.Proofs.YtpichfafdcfbhaaGreatDoor
section
open Go.RowKit Go.Shelf Lib Str Limb
attribute [local go_sem] Oper.semAt_some
theorem zma (q:Rat) (h:0<=q.num) (w:zA):
 zC zF 205 #[St (numS q)] w λe w'=>e=.returned (.bool false)/\w'=w:=by
 have hp:Lib.hasPrefix (numS q) [45]=false:=by
  obtain⟨c,r,e,hc,_⟩:=dec_head q.num.natAbs
  have e1:itoa q.num=zD q.num.natAbs:=by
   rcases zbg q.num with⟨_,e⟩|⟨h',_⟩
   ·exact e
   ·omega
  have hc5:c≠45:=λh=>by subst h;simp at hc
  unfold numS
  rw[e1,e]
  simp[Lib.hasPrefix,List.isPrefixOf,Ne.symm hc5]
 have hc:=Tryz.strings_HasPrefix ⟨(numS q).toArray⟩ ⟨#[45]⟩ w
 rw[show(⟨(numS q).toArray⟩:ByteArray).data.toList=numS q from rfl,show(⟨#[45]⟩:ByteArray).data.toList=[45] from rfl,hp] at hc
 show zC _ _ #[.string ⟨(numS q).toArray⟩] _ _
 generalize (⟨(numS q).toArray⟩:ByteArray)=u at*
 have HC:=hid hc;clear hc hp
 go_enter Tryz.func205,Tryz.ntmps205
 go_wp2_with fail
 refine HC.out.mono ?_
 rintro e w' ⟨rfl,rfl⟩
 go_wp2_with fail
 go_ret
 exact⟨rfl,rfl⟩
theorem zk7 (n:Nat) (hl:(zD n).length<=17) (w:zA) (_:Wd w):
 qJ 199 #[St (zD n)] w (.tuple #[I n,.bool true]):=by
 have hc:=znc (n:Int) (by rw[Str.zad];omega) w
 rw[Str.zad] at hc
 have hsz:¬(17:Int)<(⟨(zD n).toArray⟩:ByteArray).size:=by
  have:(⟨(zD n).toArray⟩:ByteArray).size=(zD n).length:=by show(zD n).toArray.size=_;simp
  omega
 show zC _ _ #[.string ⟨(zD n).toArray⟩] _ _
 generalize (⟨(zD n).toArray⟩:ByteArray)=u at*
 have HC:=hid hc;clear hc hl
 go_enter Tryz.func199,Tryz.ntmps199
 go_wp2_with fail
 refine HC.out.mono ?_
 rintro e w1 ⟨rfl,hb⟩
 go_wp2_with fail
 (refine wp_region_quiet_lit (by kernel_rfl) (by kernel_rfl) (WQ.out ?_);(repeat(first|(apply WQ.read (by rfl);(focus(rintro W ⟨n,rfl⟩;go_simp;try with_reducible rfl));try simp only[zzQ])|(apply WQ.skip (by rfl);try simp only[zzQ])));refine WQ.nil ?_;rintro _ ⟨nq,rfl⟩)
 go_wp2_with fail
 go_ret2
 exact⟨rfl,zao hb nq⟩
structure PairS (w:zA) (u v:List UInt8) (pb:Nat) (W:zA):Prop where
 bel:qL w W
 lt:pb<W.heap.size
 hp:W.heap[pb]? =some (.cells #[St u,St v] 183 (0,0))
theorem PairS.next {w:zA} {u v:List UInt8} {pb:Nat} {W W':zA} (h:PairS w u v pb W) (hb:qL W W'):PairS w u v pb W':=
 ⟨h.bel.trans (hb.mono h.bel.size),Nat.lt_of_lt_of_le h.lt hb.size,(hb.block _ h.lt).trans h.hp⟩
theorem PairS.c0 {w:zA} {u v:List UInt8} {pb:Nat} {W:zA} (h:PairS w u v pb W):W.cell? ⟨pb,0,none⟩=some (St u):=by rw[zJ h.hp];rfl
theorem PairS.c1 {w:zA} {u v:List UInt8} {pb:Nat} {W:zA} (h:PairS w u v pb W):W.cell? ⟨pb,1,none⟩=some (St v):=by rw[zJ h.hp];rfl
theorem zji (p1 p2:Option Addr) (cap1 cap2 n1 n2:Nat) (q1 q2:Nat->Rat) (h1:n1<=100) (h2:n2<=100)
 (C:Hid (∀k,k<n1->qK 58 #[St (numS (q1 k))] (.int .i64 0)))
 (O:Hid (∀k,k<n1->qK 148 #[St (numS (q1 k))] (.agg #[St (itoa (q1 k).num),St (zD (q1 k).den)])))
 (Z:Hid (∀k,k<n1->digs (q1 k).num<=90/\(zD (q1 k).den).length<=90))
 (N:Hid (∀k,k<n2->∀W:zA,zC zF 205 #[St (numS (q2 k))] W λe w'=>e=.returned (.bool false)/\w'=W))
 (w:zA) (HW:Hid (Wd w)) (HP1:Hid (RowNums p1 n1 q1 w)) (HP2:Hid (RowNums p2 n2 q2 w)):
 qJ 146 #[.slice p1 n1 cap1,.slice p2 n2 cap2] w (.int .i64 0):=by
 go_enter Tryz.func146,Tryz.ntmps146
 go_wp2_with fail
 go_loopw [13] (λi wr=>∃(k:Nat),k<=n1/\i=.int .i64 (k:Int)/\Hid (qL w wr))
  (λi _=>n1-(zL i).toNat)
 case atStart=>exact⟨0,zR _,rfl,zM _ _⟩
 case round=>
  obtain⟨k,hk,rfl,hB⟩:=hrel
  by_cases hlt:k<n1
  ·obtain⟨b,off,rfl,c0⟩:=(HP1.out.keep (zac (hB.out.mono (zN _)))) k hlt
   have HC:=hid (C.out k hlt);have HO:=hid (O.out k hlt)
   obtain⟨z1,z2⟩:=Z.out k hlt
   obtain⟨t,ht⟩:∃t:ByteArray,t=⟨(trimPrefix (⟨(itoa (q1 k).num).toArray⟩:ByteArray).data.toList (⟨#[45]⟩:ByteArray).data.toList).toArray⟩:=⟨_,rfl⟩
   have hts:t.size<=90:=by
    rw[ht];show(trimPrefix (itoa (q1 k).num) [45]).toArray.size<=90
    rw[zbi];simpa [digs] using z1
   have hvs:(⟨(zD (q1 k).den).toArray⟩:ByteArray).size<=90:=by show(zD (q1 k).den).toArray.size<=90;simpa using z2
   have hmx:max (t.size:Int) ((zD (q1 k).den).length:Int)<=90:=by omega
   have HT0:=hid ht
   clear ht z1 z2
   generalize numS (q1 k)=x at*
   generalize itoa (q1 k).num=u at*
   generalize zD (q1 k).den=v at*
   have HT:Hid (Value.string ⟨(trimPrefix (⟨u.toArray⟩:ByteArray).data.toList (⟨#[45]⟩:ByteArray).data.toList).toArray⟩=.string t):=hid (by rw[HT0.out])
   clear HT0
   go_wp2_with fail
   refine(HC.out wr (HW.out.below hB.out)).mono ?_
   rintro e w2 ⟨rfl,hb2⟩
   have hB2:=hid (hB.out.trans (hb2.mono hB.out.size));clear hb2
   go_wp2_with fail
   refine(HO.out w2 (HW.out.below hB2.out)).mono ?_
   rintro e w3 ⟨rfl,hb3⟩
   have hB3:=hid (hB2.out.trans (hb3.mono hB2.out.size));clear hb3 hB2 hB
   go_wp2_with fail
   obtain⟨w4,hw4⟩:∃w4,w4=w3.alloc (.cells #[St u,St v] 183):=⟨_,rfl⟩
   rw[<-hw4]
   obtain⟨pb,hpb⟩:∃pb,pb=w3.heap.size:=⟨_,rfl⟩
   have HP5:Hid (PairS w u v pb w4):=by
    have ha:qL w3 w4:=by rw[hw4];exact(zM _ w3).alloc (zN _) _
    exact hid ⟨hB3.out.trans (ha.mono hB3.out.size),by rw[hw4,hpb];simp,by rw[hw4,hpb];exact World.alloc_heap_new w3 _⟩
   rw[<-hpb]
   clear hw4 hB3 hpb
   refine zbl (λ_ W=>PairS w u v pb W) (by kernel_rfl) (by kernel_rfl) (by have h:=HP5.out;exact h.next (zM _ _).drew) ?_
   refine qR (.pointer (some ⟨pb,0,none⟩)) ?_
   simp only[zzQ]
   refine qR (St u) ?_ (hy:=λf W' hf h=>by have h0:=h.c0;go_simp)
   simp only[zzQ]
   refine zar (.string t) (by rfl) (λf W' hf h C' hC'=>by
    go_simp
    refine(Tryz.strings_TrimPrefix _ _ _).mono ?_
    rintro e w' ⟨rfl,hw1⟩
    have hw2:=hw1.symm;subst hw2
    refine⟨?_,hC' _ h⟩
    rw[HT.out]) ?_
   try simp only[zzQ]
   refine qR (.int .i64 t.size) ?_
   simp only[zzQ]
   refine qR (.pointer (some ⟨pb,1,none⟩)) ?_
   simp only[zzQ]
   refine qR (St v) ?_ (hy:=λf W' hf h=>by have h0:=h.c1;go_simp)
   simp only[zzQ]
   refine qR (.int .i64 (⟨v.toArray⟩:ByteArray).size) ?_
   simp only[zzQ]
   refine qR (.int .i64 (max (t.size:Int) ((⟨v.toArray⟩:ByteArray).size:Int))) ?_
   simp only[zzQ]
   refine qR (.bool false) ?_
   simp only[zzQ]
   refine zck λf W4 hf h=>?_
   have hB4:=hid h.bel
   clear h hf f HP5
   go_wp2_with fail
   go_roundw
   case rel=>exact⟨k+1,by omega,by go_num,hB4⟩
   case measure=>simp[zL];omega
  ·clear hk
   go_wp2_with fail
   clear HP1 C O Z
   go_loopw [36] (λi wr=>∃(k:Nat),k<=n2/\i=.int .i64 (k:Int)/\Hid (qL w wr))
    (λi _=>n2-(zL i).toNat)
   case atStart=>exact⟨0,zR _,rfl,hB⟩
   case round=>
    clear hB
    obtain⟨j,hj,rfl,hB⟩:=hrel
    by_cases hlt2:j<n2
    ·obtain⟨b,off,rfl,c0⟩:=(HP2.out.keep (zac (hB.out.mono (zN _)))) j hlt2
     have HN:=hid (N.out j hlt2)
     generalize numS (q2 j)=x at*
     go_wp2_with fail
     refine(HN.out _).mono ?_
     rintro e w2 ⟨rfl,hw1⟩
     have hw2:=hw1.symm;subst hw2;clear hw1
     go_wp2_with fail
     go_roundw
     case rel=>exact⟨j+1,by omega,by go_num,hB⟩
     case measure=>simp[zL];omega
    ·go_wp2_with fail
     go_ret
     exact⟨rfl,hB.out⟩
def prL:List Nat:=[2,3,5,7,11,13,17,19,23,29,31,37,41,43,47,53,59,61,67,71,73,79,83,89,97]
def prN (i:Nat):Nat:=prL.getD i 0
def prS (i:Nat):List UInt8:=([[50],[51],[53],[55],[49,49],[49,51],[49,55],[49,57],[50,51],[50,57],[51,49],[51,55],[52,49],[52,51],[52,55],[53,51],[53,57],[54,49],[54,55],[55,49],[55,51],[55,57],[56,51],[56,57],[57,55]]:List (List UInt8)).getD i []
def prV:Array Value:= #[.string ⟨#[50]⟩,.string ⟨#[51]⟩,.string ⟨#[53]⟩,.string ⟨#[55]⟩,.string ⟨#[49,49]⟩,.string ⟨#[49,51]⟩,.string ⟨#[49,55]⟩,.string ⟨#[49,57]⟩,.string ⟨#[50,51]⟩,.string ⟨#[50,57]⟩,.string ⟨#[51,49]⟩,.string ⟨#[51,55]⟩,.string ⟨#[52,49]⟩,.string ⟨#[52,51]⟩,.string ⟨#[52,55]⟩,.string ⟨#[53,51]⟩,.string ⟨#[53,57]⟩,.string ⟨#[54,49]⟩,.string ⟨#[54,55]⟩,.string ⟨#[55,49]⟩,.string ⟨#[55,51]⟩,.string ⟨#[55,57]⟩,.string ⟨#[56,51]⟩,.string ⟨#[56,57]⟩,.string ⟨#[57,55]⟩]
theorem z1r:∀i,i<25->prS i=zD (prN i)
 |0,_=>by show[50]=zD 2;rw[zae (by omega)];rfl
 |1,_=>by show[51]=zD 3;rw[zae (by omega)];rfl
 |2,_=>by show[53]=zD 5;rw[zae (by omega)];rfl
 |3,_=>by show[55]=zD 7;rw[zae (by omega)];rfl
 |4,_=>by show[49,49]=zD 11;rw[zav (by omega),zae (by omega)];rfl
 |5,_=>by show[49,51]=zD 13;rw[zav (by omega),zae (by omega)];rfl
 |6,_=>by show[49,55]=zD 17;rw[zav (by omega),zae (by omega)];rfl
 |7,_=>by show[49,57]=zD 19;rw[zav (by omega),zae (by omega)];rfl
 |8,_=>by show[50,51]=zD 23;rw[zav (by omega),zae (by omega)];rfl
 |9,_=>by show[50,57]=zD 29;rw[zav (by omega),zae (by omega)];rfl
 |10,_=>by show[51,49]=zD 31;rw[zav (by omega),zae (by omega)];rfl
 |11,_=>by show[51,55]=zD 37;rw[zav (by omega),zae (by omega)];rfl
 |12,_=>by show[52,49]=zD 41;rw[zav (by omega),zae (by omega)];rfl
 |13,_=>by show[52,51]=zD 43;rw[zav (by omega),zae (by omega)];rfl
 |14,_=>by show[52,55]=zD 47;rw[zav (by omega),zae (by omega)];rfl
 |15,_=>by show[53,51]=zD 53;rw[zav (by omega),zae (by omega)];rfl
 |16,_=>by show[53,57]=zD 59;rw[zav (by omega),zae (by omega)];rfl
 |17,_=>by show[54,49]=zD 61;rw[zav (by omega),zae (by omega)];rfl
 |18,_=>by show[54,55]=zD 67;rw[zav (by omega),zae (by omega)];rfl
 |19,_=>by show[55,49]=zD 71;rw[zav (by omega),zae (by omega)];rfl
 |20,_=>by show[55,51]=zD 73;rw[zav (by omega),zae (by omega)];rfl
 |21,_=>by show[55,57]=zD 79;rw[zav (by omega),zae (by omega)];rfl
 |22,_=>by show[56,51]=zD 83;rw[zav (by omega),zae (by omega)];rfl
 |23,_=>by show[56,57]=zD 89;rw[zav (by omega),zae (by omega)];rfl
 |24,_=>by show[57,55]=zD 97;rw[zav (by omega),zae (by omega)];rfl
 |n+25,h=>absurd h (by omega)
theorem zw4:∀i,i<25->2<=prN i/\prN i<=97:=by decide
theorem z25 (i:Nat) (hi:i<25) (w:zA):(Instr.index 267 (.agg prV) (.int .i64 (i:Int))).run zF w=.ok (St (prS i)) w:=
 match i,hi with
 |0,_=>by kernel_rfl
 |1,_=>by kernel_rfl
 |2,_=>by kernel_rfl
 |3,_=>by kernel_rfl
 |4,_=>by kernel_rfl
 |5,_=>by kernel_rfl
 |6,_=>by kernel_rfl
 |7,_=>by kernel_rfl
 |8,_=>by kernel_rfl
 |9,_=>by kernel_rfl
 |10,_=>by kernel_rfl
 |11,_=>by kernel_rfl
 |12,_=>by kernel_rfl
 |13,_=>by kernel_rfl
 |14,_=>by kernel_rfl
 |15,_=>by kernel_rfl
 |16,_=>by kernel_rfl
 |17,_=>by kernel_rfl
 |18,_=>by kernel_rfl
 |19,_=>by kernel_rfl
 |20,_=>by kernel_rfl
 |21,_=>by kernel_rfl
 |22,_=>by kernel_rfl
 |23,_=>by kernel_rfl
 |24,_=>by kernel_rfl
 |n+25,h=>absurd h (by omega)
structure Pw (w:zA):Prop where
 prim:w.var? zF "kingpost/root.primes" =some prV
theorem Pw.below {w w':zA} (h:Pw w) (hb:qL w w'):Pw w':=by
 have hg:Tryz.prog.globalNamed "kingpost/root.primes" =some 4:=by kernel_rfl
 exact⟨var?_below hb hg (zv5 hg h.prim) h.prim⟩
theorem Pw.block {w:zA} (h:Pw w):∃t fz,w.heap[4]? =some (.cells prV t fz):=by
 have hg:Tryz.prog.globalNamed "kingpost/root.primes" =some 4:=by kernel_rfl
 have hv:=h.prim
 unfold World.var? at hv
 rw[hg] at hv
 simp only[Option.bind_some] at hv
 cases hb:w.heap[(4:Nat)]? with
 |none=>rw[hb] at hv;cases hv
 |some x=>
  rw[hb] at hv
  cases x with
  |cells cs t fz=>simp at hv;subst hv;exact⟨t,fz,rfl⟩
  |_=>cases hv
theorem z1s {c l p:Nat} (hp:p*p∣l):(c*p)*(c*p)*(l/(p*p))=c*c*l:=by
 obtain⟨k,rfl⟩:=hp
 by_cases h:p*p=0
 ·rw[h];simp
 ·rw[Nat.mul_div_cancel_left _ (by omega)]
  simp only[Nat.mul_left_comm,Nat.mul_comm]
end
section
open Go.RowKit Go.Shelf Lib Str Limb
open Go.ChangeShapes Go.WideShapes Go.ChangeAt
theorem zf9 {H:Type} {enc:TypeId×Value->H} {a:Assume} {C:Checked} {os:Os} {f:FuncId} {fn:Func} {s:ChangeSpec} {conds:List PathCond} {apart fresh handsOn again:Bool} {X:zA->Array Value->Prop}
 (hX:∀(w w':zA) (args:Array Value),w.heap=w'.heap->X w args->X w' args)
 (own:ownKnob C.prog.godebug=none) (started:os.Started) (noInit:C.prog.inits.idxOf? f=none) (hfn:C.prog.funcs[f]? =some fn)
 (witness:∃(w:zA) (tape:Tape) (i:Input),w.os=os/\(w.forCall tape i).Shaped C.prog/\i.vars=[]/\Input.okWide C.prog (w.forCall tape i) .any w.heap.size f i/\
   ((s.pre enc C.prog fn conds apart (w.forCall tape i).memory i.args/\X (w.forCall tape i).memory i.args)/\sizedMet enc C.prog fn (OpenSpec.ofChange s) apart (w.forCall tape i).memory i.args)/\a.holds C.prog (lone (Frame.enter C.prog f i.args .normal) [] (w.forCall tape i)))
 (contract:∀(W:zA) (args:Array Value) (ds gs:List (DataW H)) (before:List MemPlace) (base:Nat),
   (∀(j:Nat) t v,fn.params[j]? =some t->args[j]? =some v->Value.okWide C.prog W .any base t v)->
   DataW.Whole enc C.prog fn.params.toList s.vars apart W args.toList ds gs before->X W args->W.ShapedOpen C.prog->
   zC C.prog f args W λe W'=>∃v,e=.returned v/\s.post enc C.prog fn apart fresh handsOn again W args v W'):
 ReturnsInHanded a C os f .any (λw args=>(s.pre enc C.prog fn conds apart w args/\X w args)/\sizedMet enc C.prog fn (OpenSpec.ofChange s) apart w args) (s.post enc C.prog fn apart fresh handsOn again):=by
 refine returnsInHanded_of_calls own started noInit witness ?_
 rintro w tape i _ hsh _ ⟨_,_,_,fn',hfn',_,_,_,_,hval⟩ ⟨⟨⟨ds,gs,before,hw,_⟩,hx⟩,_⟩ _
 obtain rfl:fn'=fn:=Option.some.inj (hfn'.symm.trans hfn)
 refine(contract (w.forCall tape i) i.args ds gs before w.heap.size hval (DataW.Whole.of_heap (w':=w.forCall tape i) (by rfl) hw) (hX _ _ _ (by rfl) hx) hsh).mono ?_
 rintro e W' ⟨v,rfl,hp⟩
 exact ChangeSpec.post_blind hp
theorem zp7 {H:Type} {enc:TypeId×Value->H} {P:Program} {w:zA} {base:Nat} {sp:Nat->Bool} {held:Bool} {fuel:Nat} {t e:TypeId} {n:Nat} {cs:List Value} {ss:List (List UInt8)} {p:List MemPlace}
 (ht:P.underlying t=some (.array n e)) (he:P.underlying e=some .string) (hce:P.cellsOf e=1) (hct:P.cellsOf t=n) (hsl:ss.length=n)
 (h:DataW.trod enc P w base sp held fuel t cs=some (.agg (ss.map λs=>.lit (.string s)),p)):cs=ss.map λs=>Value.string ⟨s.toArray⟩:=by
 have hcl:cs.length=n:=by
  cases fuel with
  |zero=>simp[DataW.trod] at h
  |succ fuel=>
   have h0:=h
   simp only[DataW.trod,ht,hce,hct,Nat.mul_one] at h0
   split at h0
   ·rename_i hl;exact hl
   ·cases h0
 apply List.ext_getElem?
 intro i
 by_cases hi:i<n
 ·obtain⟨fu,d,q,hd,htr⟩:=array_elem ht h i hi
  rw[hce] at htr
  obtain⟨s,hs,hx,_⟩:=DataW.trod_string he htr
  simp only[Prod.mk.injEq] at hx
  obtain⟨rfl,_⟩:=hx
  have h1:cs[i]? =some (.string s):=by
   have:=congrArg (·[0]?) hs
   simpa [List.getElem?_take,List.getElem?_drop] using this
  rw[List.getElem?_map,Option.map_eq_some_iff] at hd
  obtain⟨l,hl,e⟩:=hd
  simp only[DataW.lit.injEq,Lit.string.injEq] at e
  rw[h1,List.getElem?_map,hl,e]
  rfl
 ·rw[List.getElem?_eq_none (by omega),List.getElem?_eq_none (by simp;omega)]
theorem z0v {l:List (String×DataW Unit)} {W:zA} (hL:laidMet zF l W) (hm:("internal/strconv.uint64pow10",Rows.laid_internal_strconv_uint64pow10)∈l) (hs:W.ShapedOpen zF):Wd W:=by
 obtain⟨g,t,cs,fuel,p,hg,ht,hv,hd⟩:=Lib.laidMet.reads hL hm
 obtain rfl:g=3:=Option.some.inj (hg.symm.trans (by kernel_rfl))
 obtain rfl:t=260:=Option.some.inj (ht.symm.trans (by kernel_rfl))
 have e:(Rows.laid_internal_strconv_uint64pow10:DataW Unit)=Lib.tabData .u64 Lib.pow10Tab:=by kernel_rfl
 rw[e] at hd
 have hc:=Lib.cells_of_tab (n:=20) Tryz.underlying260 Tryz.underlying213 (by kernel_rfl) (by kernel_rfl) hd
 refine⟨?_,Proofs.cell_of_shapedOpen_int (t:=3) (zero:= #[.int .i64 0]) hs (of_decide_eq_true (by kernel_rfl)) (by kernel_rfl) rfl (by kernel_rfl) (by kernel_rfl) Tryz.underlying3⟩
 unfold Lib.TabIs
 rw[hv,<-hc]
theorem zzj:prV.toList=([[50],[51],[53],[55],[49,49],[49,51],[49,55],[49,57],[50,51],[50,57],[51,49],[51,55],[52,49],[52,51],[52,55],[53,51],[53,57],[54,49],[54,55],[55,49],[55,51],[55,57],[56,51],[56,57],[57,55]]:List (List UInt8)).map λs=>Value.string ⟨s.toArray⟩:=by kernel_rfl
theorem z0w {l:List (String×DataW Unit)} {W:zA} (hL:laidMet zF l W) (hm:("kingpost/root.primes",Rows.laid_kingpost_root_primes)∈l):Pw W:=by
 obtain⟨g,t,cs,fuel,p,hg,ht,hv,hd⟩:=Lib.laidMet.reads hL hm
 obtain rfl:g=4:=Option.some.inj (hg.symm.trans (by kernel_rfl))
 obtain rfl:t=267:=Option.some.inj (ht.symm.trans (by kernel_rfl))
 have e:(Rows.laid_kingpost_root_primes:DataW Unit)=.agg (([[50],[51],[53],[55],[49,49],[49,51],[49,55],[49,57],[50,51],[50,57],[51,49],[51,55],[52,49],[52,51],[52,55],[53,51],[53,57],[54,49],[54,55],[55,49],[55,51],[55,57],[56,51],[56,57],[57,55]]:List (List UInt8)).map λs=>.lit (.string s)):=by kernel_rfl
 rw[e] at hd
 have hc:=zp7 (n:=25) Tryz.underlying267 Tryz.underlying9 (by kernel_rfl) (by kernel_rfl) (by decide) hd
 obtain rfl:cs=prV:=Array.toList_inj.1 (hc.trans zzj.symm)
 exact⟨hv⟩
theorem zrj:ownKnob Tryz.prog.godebug=none:=by kernel_rfl
theorem zgh:laidOutB zF=true:=by kernel_rfl
end
section
open Go.RowKit Go.Shelf Lib Str Limb
attribute [local go_sem] Oper.semAt_some
theorem z66 (a:Rat) (w:zA):
 qJ 36 #[zb1 a,zb1 0] w (.tuple #[St [],.int .i64 12]):=by
 unfold zb1
 have hz:((⟨(itoa (0:Rat).num).toArray⟩:ByteArray).toList==[48])=true:=by decide+kernel
 generalize itoa a.num=s1
 generalize itoa (0:Rat).num=s2 at*
 generalize zD a.den=t1
 generalize zD (0:Rat).den=t2
 obtain⟨S2,hS2⟩:∃S2:ByteArray,S2=⟨s2.toArray⟩:=⟨_,rfl⟩
 rw[show St s2=.string S2 from by rw[hS2]]
 rw[<-hS2] at hz
 have hB0:qL w ((w.alloc (.cells #[St s1,St t1] 67)).alloc (.cells #[.string S2,St t2] 67)):=((zM _ w).alloc (zN _) _).alloc (by simp) _
 clear hS2
 go_enter Tryz.func36,Tryz.ntmps36
 go_wp2_with fail
 go_ret2
 exact⟨rfl,hB0⟩
theorem z67 (a:Rat) (ha:okQ a) (w:zA) (hw:Wd w):
 qJ 9 #[St (numS a),St [48]] w (.tuple #[St [],.int .i64 12]):=by
 have h0:okQ 0:=⟨by decide+kernel,by decide+kernel⟩
 have e0:numS 0=[48]:=(zpy 0).2 rfl
 have hbo:=zzb a 0 ha h0 [] (E:=12) w hw (λW' _ hW'=>z66 a W')
 rw[e0] at hbo
 obtain⟨y,hy⟩:∃y:ByteArray,y=⟨([48]:List UInt8).toArray⟩:=⟨_,rfl⟩
 have hyz:(y.toList==[48])=true:=by rw[hy];decide+kernel
 have ey:St [48]=.string y:=by rw[hy]
 rw[ey] at hbo⊢
 generalize numS a=x at hbo⊢
 have HBO:=hid hbo
 clear hbo ha h0 e0 hy ey
 go_enter Tryz.func9,Tryz.ntmps9
 go_wp2_with fail
 refine HBO.out.mono ?_
 rintro e w3 ⟨rfl,hb3⟩
 go_wp2_with fail
 go_ret2
 exact⟨rfl,hb3⟩
end
section
open Go.RowKit Lib Str Limb
theorem zeb (p:Option Addr) (n cap:Nat) (l:List Nat) (w:zA) (h:Sl w (.slice p n cap) (l.map I)) (hl:l.length<=3000):
 zC zF 157 #[.slice p n cap] w λe w'=>e=.returned (.slice p (zat l).length cap)/\w=w':=by
 rcases h.cases with⟨h0,p',cap',e⟩|⟨h0,b,off,cap',e,hcap,hb,hc⟩
 ·have:l=[]:=by simpa using h0
  subst this
  simp only[Value.slice.injEq] at e
  obtain⟨rfl,rfl,rfl⟩:=e
  go_enter Tryz.func157,Tryz.ntmps157
  go_wp2
  go_loop [3] (λs=>s=.int .i64 0) (λ_=>0)
  case atStart=>rfl
  case round=>
   subst hrel
   go_wp2
   go_ret
   exact⟨rfl,rfl⟩
 ·rw[zV] at hcap e
  simp only[Value.slice.injEq] at e
  obtain⟨rfl,rfl,rfl⟩:=e
  have HC:=hid hc;clear hc h
  go_enter Tryz.func157,Tryz.ntmps157
  go_wp2
  go_loop [3] (λs=>∃k:Nat,k<=l.length/\s=.int .i64 k/\Hid (zat (l.take k)=zat l)) (λs=>(zL s).toNat)
  case atStart=>exact⟨l.length,zN _,rfl,by show zat (l.take l.length)=_;rw[List.take_length]⟩
  case round=>
   obtain⟨k,hk,rfl,ht⟩:=hrel
   rcases Nat.eq_zero_or_pos k with rfl|hp
   ·have e:(zat l).length=0:=by rw[<-ht.out];simp[zou]
    have E:=hid e;clear e
    go_wp2
    go_ret
    exact⟨by rw[E.out];rfl,rfl⟩
   ·obtain⟨m,rfl⟩:∃m,k=m+1:=⟨k-1,by omega⟩
    have hm:m<l.length:=by omega
    have hx:l[m]? =some l[m]:=by simp[hm]
    have hcell:=HC.out m (I l[m]) (by simp[hm])
    have hsn:zat (l.take (m+1))=zat (l.take m++[l[m]]):=by rw[List.take_succ_eq_append_getElem hm]
    by_cases hz:l[m]=0
    ·rw[hz] at hcell hsn
     have HS:Hid (zat (l.take m)=zat l):=by rw[<-ht.out,hsn,zew];rfl
     clear hsn hx hz ht
     go_wp2
     go_round
     case rel=>exact⟨m,by omega,by go_num,HS⟩
     case measure=>simp[zL]
    ·have HS:Hid ((zat l).length=m+1):=by
      rw[<-ht.out,hsn,zhs _ hz];show(l.take m++[l[m]]).length=m+1
      simp;omega
     have hz':(((l[m]:Nat):Int)==0)=false:=by rw[beq_eq_false_iff_ne];omega
     clear hsn hx ht
     go_wp2
     go_ret
     exact⟨by rw[HS.out];rfl,rfl⟩
theorem zgz (v:Value) (l:List Nat) (i:Nat) (w:zA) (h:Sl w v (l.map I)) (hl:l.length<=3000):
 zC zF 159 #[v,I i] w λe w'=>e=.returned (I (l[i]?.getD 0))/\w=w':=by
 by_cases hi:i<l.length
 ·rcases h.cases with⟨h0,p,cap,rfl⟩|⟨h0,b,off,cap,rfl,hcap,hb,hc⟩
  ·have:l=[]:=by simpa using h0
   subst this;simp at hi
  ·have hcell:=hc i (I (l[i]?.getD 0)) (by simp[hi])
   clear hc h
   rw[zV]
   generalize l[i]?.getD 0=x at*
   go_enter Tryz.func159,Tryz.ntmps159
   go_wp2
   go_ret
   exact⟨rfl,rfl⟩
 ·have:l[i]?.getD 0=0:=by rw[List.getElem?_eq_none (by omega)];rfl
  rw[this]
  obtain⟨p,cap,rfl,hcap,_⟩:=h
  rw[zV]
  go_enter Tryz.func159,Tryz.ntmps159
  go_wp2
  go_ret
  exact⟨rfl,rfl⟩
def B6:Nat:=1000000
theorem zh4 {w:zA} {base k:Nat} {p:Option Addr} {n c:Nat} {o:List Nat} (h:w.ownsRow base 3 1 (.slice p n c) k (o.map I)) (hk:o.length=k):
 w.ownsRow base 3 1 (.slice p (zat o).length c) (zat o).length ((zat o).map I):=zeq (v:=.slice p n c) h hk
theorem zg0 {w:zA} {base:Nat} {t:TypeId} {s:Nat} {v:Value} {n:Nat} {xs:List Value} (h:w.ownsRow base t s v n xs):∃p m c,v=.slice p m c:=by
 rcases h.2 with⟨e,_⟩|⟨g,cp,cur,e,_⟩<;>exact⟨_,_,_,e⟩
end
section
theorem zzD {B:Nat} {a w:zA} (h:RowKit.Below B a w) (n:Nat):RowKit.Below B a (w.drewN n):=⟨h.os,h.tape,h.output,h.size,h.block⟩
open Go.RowKit Lib Str Limb
def zua (w:zA) (l:List Nat) (e:Ending) (w':zA):Prop:=
 ∃g c,e=.returned (.slice (some ⟨g,0,none⟩) l.length c)/\w'.ownsRow w.heap.size 3 1 (.slice (some ⟨g,0,none⟩) l.length c) l.length (l.map I)/\Below w.heap.size w w'
theorem zrr {w:zA} {base:Nat} {t:TypeId} {s:Nat} {v:Value} {n:Nat} {xs:List Value} (h:w.ownsRow base t s v n xs) (hne:v≠ .slice none 0 0):∃g c,v=.slice (some ⟨g,0,none⟩) n c:=by
 rcases h.2 with⟨e,_⟩|⟨g,cp,cur,e,_⟩
 ·exact absurd e hne
 ·exact⟨_,_,e⟩
theorem zix (va vb:Value) (a b:List Nat) (w:zA) (ha:Sl w va (a.map I)) (hb:Sl w vb (b.map I)) (sa:zal B6 a) (sb:zal B6 b) (la:a.length<=1000) (hba:b.length<=a.length) (hle:valL B6 b<=valL B6 a):
 zC zF 160 #[va,vb] w (zua w (zaa B6 (valL B6 a-valL B6 b))):=by
 rw[<-znb (B:=B6) (by decide) sa sb hle a.length (zN _) hba]
 obtain⟨i0,hi,hz0,hz1,hz2⟩:=info_parts zdv
 have ha':=ha;have hb':=hb
 obtain⟨pa,ca,rfl,hca,hcella⟩:=ha
 obtain⟨pb,cb,rfl,hcb,hcellb⟩:=hb
 have HA:=hid ha';clear ha' hcella hca
 have HB:=hid hb';clear hb' hcellb hcb hle
 have SA:=hid sa;clear sa
 have SB:=hid sb;clear sb
 simp only[zV] at*
 go_enter Tryz.func160,Tryz.ntmps160
 go_wp2
 go_loopw [5,6,7] (λv c i wr=>∃k:Nat,k<=a.length/\i=.int .i64 k/\c=I (zaq (za1 B6) a b k).2/\wr.ownsRow w.heap.size 3 1 v k ((zaq (za1 B6) a b k).1.map I)/\Below w.heap.size w wr/\v≠ .slice none 0 0)
  (λ_ _ i _=>a.length-(zL i).toNat)
 case atStart=>exact⟨0,zR _,rfl,rfl,World.ownsRow_made w #[] 0 (zN _) (by unfold maxLen;omega) rfl,(zM _ w).alloc (zN _) _,λh=>by cases h⟩
 case round=>
  obtain⟨k,hk,rfl,rfl,hown,hB,hne⟩:=hrel
  have HNE:=hid hne;clear hne
  obtain⟨p1,p2,p3⟩:=zlo (B:=B6) (by decide) SA.out SB.out k
  by_cases hlt:k<a.length
  ·obtain⟨ba,offa,rfl,hba',hcapa,hcx⟩:=(HA.out.below hB).at hlt
   have hx:=zaj SA.out (by decide) k
   have hy:=zaj SB.out (by decide) k
   have hst:zaq (za1 B6) a b (k+1)=((zaq (za1 B6) a b k).1++[(za1 B6 (a[k]?.getD 0) (b[k]?.getD 0) (zaq (za1 B6) a b k).2).1],(za1 B6 (a[k]?.getD 0) (b[k]?.getD 0) (zaq (za1 B6) a b k).2).2):=rfl
   have HST:=hid hst;clear hst p1 p3
   generalize (zaq (za1 B6) a b k).1=o at*
   generalize (zaq (za1 B6) a b k).2=c at*
   have hx':a[k]?.getD 0<1000000:=hx
   have hy':b[k]?.getD 0<1000000:=hy
   clear hx hy
   have HOWN:=hid hown;clear hown
   have LB:=hid λ(W:zA) (h:qL w W)=>zgz _ b k W (HB.out.below h) (by omega)
   generalize a[k]?.getD 0=x at*
   generalize b[k]?.getD 0=y at*
   have e1:IntKind.i64.wrap ((x:Int)-y)=(x:Int)-y:=zI _ (by omega)
   have e2:IntKind.i64.wrap ((x:Int)-y-c)=(x:Int)-y-c:=zI _ (by omega)
   have fin:∀(v':Value) (w1:zA) (z:Int) (W:zA),qL w W->W.ownsRow w.heap.size 3 1 v' (k+1) (o.map I++[.int .i64 z])->True:=λ_ _ _ _ _ _=>trivial
   clear fin
   by_cases hge:y+c<=x
   ·have hE:Hid (Value.int .i64 ((x:Int)-y-c)=I (za1 B6 x y c).1/\(za1 B6 x y c).2=0):=hid (by
     have e:za1 B6 x y c=(x-y-c,0):=by unfold za1;rw[if_pos hge]
     rw[e];exact⟨by show Value.int .i64 _=Value.int .i64 _;congr 1;omega,rfl⟩)
    have hn:¬(x:Int)-y-c<0:=by omega
    go_wp2
    go_quiet ((go_at_call 159;exact Calls.quiet_of_same (zi5 (LB.out _ (hB.trans (zzD (zM _ _) _))))))
    clear e1 e2
    have hB2:qL w (wr.drewN nq):=zzD hB _
    have HOWN2:=hid (show(wr.drewN nq).ownsRow w.heap.size 3 1 _ k (o.map I) from HOWN.out)
    clear HOWN hcx hB hba'
    go_wp2_with (at_builtin;refine wpList_append_own _ rfl _ _ 79 rfl w.heap.size 3 i0 (.int .i64 0) 1 8 Tryz.underlying79 hi hz0 hz1 hz2 rfl (by decide) _ _ _ rfl (HOWN2.out.alloc _) ⟨wr.heap.size,0,none⟩ 1 1 [.int .i64 ((x:Int)-y-c)] rfl rfl (zep _ _ _) (zfn _) (by unfold maxLen;omega) (by omega) (by have:=hB2.size;simp at this⊢;omega) ?_)
    intro v' w1 hown' hgrow hnn
    have HNN:=hid (show v'≠ .slice none 0 0 from hnn);clear hnn
    have hB1:qL w w1:=(hB2.alloc hB2.size _).grown hgrow (by have:=hB2.size;simp at this⊢;omega) (λq e=>(HOWN2.out.lt q e).1)
    rw[hE.out.1] at hown'
    clear hgrow hB2 HOWN2
    go_wp2
    go_roundw
    case rel=>exact⟨k+1,by omega,by go_num,by rw[HST.out,hE.out.2];rfl,by rw[HST.out];simpa using hown',hB1,HNN.out⟩
    case measure=>simp[zL];omega
   ·have hE:Hid (Value.int .i64 ((x:Int)-y-c+1000000)=I (za1 B6 x y c).1/\(za1 B6 x y c).2=1):=hid (by
     have e:za1 B6 x y c=(x+B6-y-c,1):=by unfold za1;rw[if_neg hge]
     rw[e];exact⟨by show Value.int .i64 _=Value.int .i64 _;congr 1;unfold B6;omega,rfl⟩)
    have hn:(x:Int)-y-c<0:=by omega
    have e3:IntKind.i64.wrap ((x:Int)-y-c+1000000)=(x:Int)-y-c+1000000:=zI _ (by omega)
    go_wp2
    go_quiet ((go_at_call 159;exact Calls.quiet_of_same (zi5 (LB.out _ (hB.trans (zzD (zM _ _) _))))))
    clear e1 e2
    have hB2:qL w (wr.drewN nq):=zzD hB _
    have HOWN2:=hid (show(wr.drewN nq).ownsRow w.heap.size 3 1 _ k (o.map I) from HOWN.out)
    clear HOWN hcx hB hba'
    go_wp2_with (at_builtin;refine wpList_append_own _ rfl _ _ 79 rfl w.heap.size 3 i0 (.int .i64 0) 1 8 Tryz.underlying79 hi hz0 hz1 hz2 rfl (by decide) _ _ _ rfl (HOWN2.out.alloc _) ⟨wr.heap.size,0,none⟩ 1 1 [.int .i64 ((x:Int)-y-c+1000000)] rfl rfl (zep _ _ _) (zfn _) (by unfold maxLen;omega) (by omega) (by have:=hB2.size;simp at this⊢;omega) ?_)
    intro v' w1 hown' hgrow hnn
    have HNN:=hid (show v'≠ .slice none 0 0 from hnn);clear hnn
    have hB1:qL w w1:=(hB2.alloc hB2.size _).grown hgrow (by have:=hB2.size;simp at this⊢;omega) (λq e=>(HOWN2.out.lt q e).1)
    rw[hE.out.1] at hown'
    clear hgrow hB2 HOWN2 e3
    go_wp2
    go_roundw
    case rel=>exact⟨k+1,by omega,by go_num,by rw[HST.out,hE.out.2];rfl,by rw[HST.out];simpa using hown',hB1,HNN.out⟩
    case measure=>simp[zL];omega
  ·obtain rfl:k=a.length:=by omega
   have hl:(zaq (za1 B6) a b a.length).1.length=a.length:=zdk _ _ _ _
   obtain⟨o,ho⟩:∃o,o=(zaq (za1 B6) a b a.length).1:=⟨_,rfl⟩
   rw[<-ho] at hown hl
   have HO:=hid ho
   have HL:=hid hl;clear hl p1 p2 p3
   obtain⟨vg,vc,rfl⟩:=zrr hown HNE.out
   have HOWN:=hid hown;clear hown ho
   go_wp2_with fail
   refine(zeb _ _ _ o wr (Sl.of_own HOWN.out) (by rw[HL.out];omega)).mono ?_
   rintro e w1 ⟨rfl,rfl⟩
   go_wp2_with fail
   go_ret
   rw[<-HO.out]
   exact⟨_,_,rfl,zh4 HOWN.out HL.out,hB⟩
theorem zxc (m n:Nat) (hl:(zaa B6 m).length=(zaa B6 n).length) (k:Nat) (hk:k<(zaa B6 m).length) (h:∀i,k<i->i<(zaa B6 m).length->(zaa B6 m)[i]?.getD 0=(zaa B6 n)[i]?.getD 0):
 ((zaa B6 m)[k]?.getD 0<(zaa B6 n)[k]?.getD 0->m<n)/\((zaa B6 n)[k]?.getD 0<(zaa B6 m)[k]?.getD 0->n<m):=by
 have hB:2<=B6:=by decide
 have sa:=zak hB m
 have sb:=zak hB n
 have hd:=ztr hl k h
 constructor
 ·intro hlt
  have:=zem sa sb hl k hk hd hlt
  rwa [zam hB,zam hB] at this
 ·intro hgt
  have:=zem sb sa hl.symm k (by omega) hd.symm hgt
  rwa [zam hB,zam hB] at this
theorem z27 (m n:Nat) (hl:(zaa B6 m).length=(zaa B6 n).length) (h:∀i,i<(zaa B6 m).length->(zaa B6 m)[i]?.getD 0=(zaa B6 n)[i]?.getD 0):m=n:=by
 have hB:2<=B6:=by decide
 rw[<-zam hB m,zoa hl h,zam hB]
def ordN (m n:Nat):Int:=if m<n then-1 else if m=n then 0 else 1
theorem zlc (va vb:Value) (m n:Nat) (w:zA) (ha:Sl w va ((zaa B6 m).map I)) (hb:Sl w vb ((zaa B6 n).map I)) (la:(zaa B6 m).length<=1000) (_:(zaa B6 n).length<=1000):
 qJ 162 #[va,vb] w (.int .i64 (ordN m n)):=by
 have ha':=ha;have hb':=hb
 obtain⟨pa,ca,rfl,hca,hcella⟩:=ha
 obtain⟨pb,cb,rfl,hcb,hcellb⟩:=hb
 have HA:=hid ha';clear ha' hcella hca
 have HB:=hid hb';clear hb' hcellb hcb
 simp only[zV] at*
 have hlt':=zc2 (B:=B6) (by decide) (m:=m) (n:=n)
 have hgt':=zc2 (B:=B6) (by decide) (m:=n) (n:=m)
 have SA:=hid (zak (B:=B6) (by decide) m)
 have SB:=hid (zak (B:=B6) (by decide) n)
 by_cases hl:(zaa B6 m).length=(zaa B6 n).length
 ·have CP:=hid (zxc m n hl)
  have CE:=hid (z27 m n hl)
  rw[<-hl]
  clear hlt' hgt'
  have HL:=hid hl;clear hl
  generalize zaa B6 m=a at*
  generalize zaa B6 n=b at*
  go_enter Tryz.func162,Tryz.ntmps162
  go_wp2
  go_loopw [5] (λi wr=>∃k:Nat,k<=a.length/\i=.int .i64 ((k:Int)-1)/\(∀j,k<=j->j<a.length->a[j]?.getD 0=b[j]?.getD 0)/\Below w.heap.size w wr)
   (λi _=>(zL i+1).toNat)
  case atStart=>exact⟨a.length,zN _,rfl,λj h1 h2=>by omega,zM _ _⟩
  case round=>
   obtain⟨k,hk,rfl,hsame,hB⟩:=hrel
   rcases Nat.eq_zero_or_pos k with rfl|hp
   ·obtain rfl:m=n:=CE.out λi hi=>hsame i (zR _) hi
    clear hsame
    go_wp2
    go_ret
    exact⟨by unfold ordN;simp,hB⟩
   ·obtain⟨i,rfl⟩:∃i,k=i+1:=⟨k-1,by omega⟩
    have hi1:((i+1:Nat):Int)-1=(i:Int):=by omega
    rw[hi1]
    have hia:i<a.length:=by omega
    have hib:i<b.length:=by have:=HL.out;omega
    obtain⟨ba,offa,rfl,hba,hcapa,hcx⟩:=(HA.out.below hB).at hia
    obtain⟨bb,offb,rfl,hbb,hcapb,hcy⟩:=(HB.out.below hB).at hib
    have hcp:=CP.out i hia (λj h1 h2=>hsame j h1 h2)
    have hsn:a[i]?.getD 0=b[i]?.getD 0->∀j,i<=j->j<a.length->a[j]?.getD 0=b[j]?.getD 0:=λe j h1 h2=>by
     rcases Nat.lt_or_ge i j with h|h
     ·exact hsame j h h2
     ·obtain rfl:j=i:=by omega
      exact e
    have HS:=hid hsn;clear hsn hsame hi1
    have hx:=zaj SA.out (by decide) i
    have hy:=zaj SB.out (by decide) i
    have hx':a[i]?.getD 0<1000000:=hx
    have hy':b[i]?.getD 0<1000000:=hy
    clear hx hy
    have HLb:(a.length:Int)=b.length:=by have:=HL.out;omega
    have HB2:=hid hB
    generalize a[i]?.getD 0=x at*
    generalize b[i]?.getD 0=y at*
    rcases Nat.lt_trichotomy x y with hc|hc|hc
    ·have ho:ordN m n= -1:=by unfold ordN;rw[if_pos (hcp.1 hc)]
     have HO:=hid ho
     clear hcp HS ho
     go_wp2
     go_quiet (fail)
     go_wp2
     go_ret
     exact⟨by rw[HO.out];rfl,zzD HB2.out _⟩
    ·have HS':=hid (HS.out hc)
     subst hc
     clear hcp HS
     go_wp2
     go_quiet (fail)
     go_wp2
     go_quiet (fail)
     go_wp2
     go_roundw
     case rel=>exact⟨i,by omega,rfl,HS'.out,zzD HB2.out _⟩
     case measure=>simp[zL]
    ·have ho:ordN m n=1:=by unfold ordN;have:=hcp.2 hc;rw[if_neg (by omega),if_neg (by omega)]
     have hc2:¬x<y:=by omega
     have HO:=hid ho
     clear hcp HS ho
     go_wp2
     go_quiet (fail)
     go_wp2
     go_quiet (fail)
     go_wp2
     go_ret
     exact⟨by rw[HO.out];rfl,zzD (zzD HB2.out _) _⟩
 ·have hl':¬(((zaa B6 m).length:Int)=(zaa B6 n).length):=by omega
  rcases Nat.lt_or_gt_of_ne hl with h|h
  ·have ho:ordN m n= -1:=by unfold ordN;rw[if_pos (hlt' h)]
   rw[ho]
   clear ho hlt' hgt' hl
   generalize (zaa B6 m).length=x at*
   generalize (zaa B6 n).length=y at*
   go_enter Tryz.func162,Tryz.ntmps162
   go_wp2
   go_ret
   exact⟨rfl,zM _ _⟩
  ·have ho:ordN m n=1:=by unfold ordN;have:=hgt' h;rw[if_neg (by omega),if_neg (by omega)]
   rw[ho]
   have h2:¬(zaa B6 m).length<(zaa B6 n).length:=by omega
   clear ho hlt' hgt' hl
   generalize (zaa B6 m).length=x at*
   generalize (zaa B6 n).length=y at*
   go_enter Tryz.func162,Tryz.ntmps162
   go_wp2
   go_ret
   exact⟨rfl,zM _ _⟩
end
section
open Go.RowKit Lib Str Limb
theorem z14 {a b:List Nat} (sa:zal B6 a) (sb:zal B6 b) (i:Nat) (hi:i<a.length):
 (zay B6 (a[i]?.getD 0) b i (zbp B6 a b i) (b.length+1)).2=0:=by
 have hB:2<=B6:=by decide
 obtain⟨t1,t2,t3⟩:=zdf hB sa sb i (Nat.le_of_lt hi)
 obtain⟨r1,r2,r3,r4⟩:=zfw hB (zaj sa (by decide) i) sb i t2 (b.length+1) (by rw[t1];omega)
 rw[List.take_of_length_le (by omega),t3] at r4
 have k1:valL B6 (a.take i)*valL B6 b+B6^i*(a[i]?.getD 0*valL B6 b)=valL B6 (a.take (i+1))*valL B6 b:=by
  rw[zbo,Nat.add_mul,Nat.mul_assoc]
 rw[k1] at r4
 have h1:=zb6 (zcu sa (i+1))
 rw[List.length_take,Nat.min_eq_left (by omega)] at h1
 have h2:=zb6 sb
 have h3:valL B6 (a.take (i+1))*valL B6 b<B6^(i+1)*B6^b.length:=Nat.mul_lt_mul'' h1 h2
 rw[<-Nat.pow_add,show i+1+b.length=i+(b.length+1) by omega] at h3
 rcases Nat.eq_zero_or_pos (zay B6 (a[i]?.getD 0) b i (zbp B6 a b i) (b.length+1)).2 with h|h
 ·exact h
 ·have:=Nat.mul_le_mul_left (B6^(i+(b.length+1))) h
  omega
theorem zzr {x:Nat} {b out:List Nat} (i:Nat) (so:zal B6 (zay B6 x b i out b.length).1) (hlen:i+b.length<(zay B6 x b i out b.length).1.length) (h:(zay B6 x b i out b.length).2=0):
 (zay B6 x b i out (b.length+1)).1=(zay B6 x b i out b.length).1:=by
 show(zay B6 x b i out b.length).1.set (i+b.length) (((zay B6 x b i out b.length).1[i+b.length]?.getD 0+x*b[b.length]?.getD 0+(zay B6 x b i out b.length).2)%B6)=_
 rw[h,List.getElem?_eq_none (l:=b) (zN _)]
 have:=zaj so (by decide) (i+b.length)
 simp only[Option.getD_none,Nat.mul_zero,Nat.add_zero]
 rw[Nat.mod_eq_of_lt this,yB hlen]
 simp
theorem znx (va vb:Value) (a b:List Nat) (w:zA) (ha:Sl w va (a.map I)) (hb:Sl w vb (b.map I)) (sa:zal B6 a) (sb:zal B6 b) (la:a.length<=1000) (lb:b.length<=1000):
 zC zF 161 #[va,vb] w (zht w (zaa B6 (valL B6 a*valL B6 b))):=by
 rw[<-zjp (B:=B6) (by decide) sa sb]
 obtain⟨i0,hi,hz0,hz1,hz2⟩:=info_parts zdv
 have ha':=ha;have hb':=hb
 obtain⟨pa,ca,rfl,hca,hcella⟩:=ha
 obtain⟨pb,cb,rfl,hcb,hcellb⟩:=hb
 have HA:=hid ha';clear ha' hcella hca
 have HB:=hid hb';clear hb' hcellb hcb
 have SA:=hid sa;clear sa
 have SB:=hid sb;clear sb
 simp only[zV] at*
 go_enter Tryz.func161,Tryz.ntmps161
 go_wp2_with (at_make;refine wpList_make_full _ rfl _ _ 79 rfl w.heap.size 3 i0 (.int .i64 0) 1 Tryz.underlying79 hi hz0 hz1 .i64 .i64 _ _ (a.length+b.length+1) rfl rfl (by omega) (by omega) (by rw[hz2];omega) (by unfold maxLen;omega) (zN _) ?_)
 intro w0 hown hgrow
 rw[toList_madeCells_one,<-show(List.replicate (a.length+b.length+1) 0).map I=List.replicate (a.length+b.length+1) (.int .i64 0) by simp] at hown
 obtain⟨hrow, -⟩:=Row.of_own hown
 have hB0:qL w w0:=(zM _ _).grown hgrow (zN _) (λ_ e=>by cases e)
 clear hown hgrow
 obtain⟨N,hN⟩:∃N,N=a.length+b.length+1:=⟨_,rfl⟩
 have hN2:(a.length:Int)+b.length+1=N:=by omega
 rw[<-hN] at hrow⊢
 have HN:=hid hN;clear hN
 obtain⟨g,hg⟩:∃g,g=w.heap.size:=⟨_,rfl⟩
 rw[<-hg] at hrow⊢
 have HG:=hid hg;clear hg
 clear hN2
 go_wp2
 go_loopw [6] (λi wr=>∃k:Nat,k<=a.length/\i=.int .i64 k/\Row wr g N (zbp B6 a b k)/\Below w.heap.size w wr)
  (λi _=>a.length-(zL i).toNat)
 case atStart=>exact⟨0,zR _,rfl,by rw[zbp,<-HN.out];exact hrow,hB0⟩
 case round=>
  clear hrow hB0
  obtain⟨i,hk,rfl,hrow,hB⟩:=hrel
  by_cases hlt:i<a.length
  ·obtain⟨ba,offa,rfl,hba,hcapa,hcx⟩:=(HA.out.below hB).at hlt
   have hxs:=zaj SA.out (by decide) i
   obtain⟨ts1,ts2, -⟩:=zdf (B:=B6) (by decide) SA.out SB.out i hk
   have hst:zbp B6 a b (i+1)=(zay B6 (a[i]?.getD 0) b i (zbp B6 a b i) (b.length+1)).1:=rfl
   have hre:=z14 SA.out SB.out i hlt
   rw[<-HN.out] at ts1
   have HST:=hid hst;clear hst
   have HRE:=hid hre;clear hre
   generalize zbp B6 a b i=L at*
   have TS1:=hid ts1;clear ts1
   have TS2:=hid ts2;clear ts2
   have hxe:a[i]?.getD 0<1000000:=hxs
   clear hxs hcx
   have HXA:=hid hxe;clear hxe
   obtain⟨x,hx⟩:∃x,x=a[i]?.getD 0:=⟨_,rfl⟩
   rw[<-hx] at HST HRE HXA
   have HXE:=hid hx;clear hx
   go_wp2
   obtain⟨wo,hwo⟩:∃wo:zA,wo=wr:=⟨_,rfl⟩
   have HWO:=hid hwo;clear hwo
   go_loopw [7,8] (λc j wr=>∃k:Nat,k<=b.length+1/\j=.int .i64 k/\c=I (zay B6 x b i L k).2/\Row wr g N (zay B6 x b i L k).1/\Below w.heap.size w wr)
    (λ_ j _=>b.length+1-(zL j).toNat)
   case atStart=>exact⟨0,zR _,rfl,rfl,hrow,hB⟩
   case round=>
    clear hrow hB
    obtain⟨k,hkk,rfl,rfl,hrow,hB⟩:=hrel
    have HN3:N=a.length+b.length+1:=HN.out
    obtain⟨r1,r2,r3, -⟩:=zfw (B:=B6) (by decide) (show x<B6 from HXA.out) SB.out i TS2.out k (by rw[TS1.out];omega)
    by_cases hgo:k<b.length\/0<(zay B6 x b i L k).2
    ·have hlk:k<b.length+1:=by
      rcases hgo with h|h
      ·omega
      ·rcases Nat.lt_or_ge k (b.length+1) with h'|h'
       ·exact h'
       ·obtain rfl:k=b.length+1:=by omega
        rw[HRE.out] at h;omega
     have hys:=zaj SB.out (by decide) k
     have hst:zay B6 x b i L (k+1)=((zay B6 x b i L k).1.set (i+k) (((zay B6 x b i L k).1[i+k]?.getD 0+x*b[k]?.getD 0+(zay B6 x b i L k).2)%B6),((zay B6 x b i L k).1[i+k]?.getD 0+x*b[k]?.getD 0+(zay B6 x b i L k).2)/B6):=rfl
     have HST2:=hid hst;clear hst
     generalize zay B6 x b i L k=r at*
     obtain⟨l,c⟩:=r
     dsimp only at*
     have hlen:i+k<l.length:=by rw[r1,TS1.out];omega
     have hcell:=hrow.cell (zih hlen)
     have hfz:=hrow.frozen (i+k)
     have hzs:=zaj r2 (by decide) (i+k)
     have hc':c<1000000:=r3
     have hz':l[i+k]?.getD 0<1000000:=hzs
     have hy':b[k]?.getD 0<1000000:=hys
     have hx':x<1000000:=HXA.out
     have hb2:i+k<N:=by omega
     have hiN:(0:Int)<=(i:Int)+k:=by omega
     have hiN2:(i:Int)+k<N:=by omega
     have LB:=hid λ(W:zA) (h:qL w W)=>zgz _ b k W (HB.out.below h) (by omega)
     obtain⟨ba',offa',e',hba,hcapa,hcx⟩:=(HA.out.below hB).at hlt
     simp only[Option.some.injEq,Addr.mk.injEq,and_true] at e'
     obtain⟨rfl,rfl⟩:=e'
     rw[<-HXE.out] at hcx
     have HROW:=hid hrow
     clear r1 r2 r3 hzs hys hrow hlen HN3
     generalize hzz:l[i+k]?.getD 0=z at*
     have HZZ:=hid hzz;clear hzz
     generalize b[k]?.getD 0=y at*
     have hp0:(0:Int)<=(x:Int)*y:=by rw[<-Int.natCast_mul];omega
     have hp1:(x:Int)*y<=999998000001:=by
      have:=Nat.mul_le_mul (show x<=999999 by omega) (show y<=999999 by omega)
      rw[<-Int.natCast_mul];omega
     have e1:IntKind.i64.wrap ((x:Int)*y)=(x:Int)*y:=zI _ (by omega)
     have e2:IntKind.i64.wrap ((z:Int)+(x:Int)*y)=(z:Int)+(x:Int)*y:=zI _ (by omega)
     have e3:IntKind.i64.wrap ((z:Int)+(x:Int)*y+c)=(z:Int)+(x:Int)*y+c:=zI _ (by omega)
     have e4:IntKind.i64.wrap ((i:Int)+k)=(i:Int)+k:=zI _ (by omega)
     have e5:((i:Int)+k).toNat=i+k:=by omega
     have HP:=hid (⟨hp0,hp1⟩:_/\_);clear hp0 hp1
     have h3:k<b.length\/(¬k<b.length/\0<c):=by omega
     clear hgo
     rcases h3 with h1|⟨h1,h2⟩<;>(
      go_wp2
      go_quiet ((go_at_call 159;exact Calls.quiet_of_same (zi5 (LB.out _ (hB.trans (zzD (zM _ _) _))))))
      clear e1 e2 e3
      have hp0:=HP.out.1;have hp1:=HP.out.2
      go_wp2
      go_roundw
      case rel=>
       refine⟨k+1,by omega,by go_num,?_,?_,?_⟩
       ·rw[HST2.out];simp[B6]
       ·rw[HST2.out]
        have:=Row.set (w:=wr.drewN nq) (show Row (wr.drewN nq) g N l from HROW.out) (i+k) ((z+x*y+c)%B6)
        have e:I ((z+x*y+c)%B6)=.int .i64 (((z:Int)+x*y+c)%1000000):=by simp[I,B6]
        rw[e] at this
        exact this
       ·exact(zzD hB _).setCell (by rw[HG.out];exact zN _) _
      case measure=>simp[zL];omega)
    ·have h1:¬k<b.length:=λh=>hgo (.inl h)
     have h2:(zay B6 x b i L k).2=0:=by have:=λh=>hgo (.inr h);omega
     have hres:(zay B6 x b i L k).1=zbp B6 a b (i+1):=by
      rw[HST.out]
      rcases Nat.lt_or_ge k (b.length+1) with h|h
      ·obtain rfl:k=b.length:=by omega
       exact(zzr i r2 (by rw[r1,TS1.out];omega) h2).symm
      ·obtain rfl:k=b.length+1:=by omega
       rfl
     rw[h2] at*
     rw[hres] at hrow
     have HROW:=hid hrow;clear hrow hres r1 r2 r3 hgo
     go_wp2
     go_roundw
     case rel=>exact⟨i+1,by omega,by go_num,HROW.out,hB⟩
     case measure=>simp[zL];omega
  ·obtain rfl:i=a.length:=by omega
   obtain⟨ts1,ts2, -⟩:=zdf (B:=B6) (by decide) SA.out SB.out a.length hk
   rw[<-HN.out] at ts1
   have hsl:=hrow.sl
   have hown:=hrow.own (base:=w.heap.size) (by rw[HG.out];exact zN _)
   rw[ts1] at hsl
   have HE:=hid (⟨ts1,hown⟩:_/\_)
   generalize hL:zbp B6 a b a.length=L at*
   have HSL:=hid hsl;clear hsl hown hrow ts1 ts2
   have HLL:=hid hL;clear hL
   go_wp2_with fail
   refine(zeb _ _ _ L wr HSL.out (by rw[HE.out.1,HN.out];omega)).mono ?_
   rintro e w1 ⟨rfl,rfl⟩
   go_wp2_with fail
   go_ret
   have:=zeq HE.out.2 rfl
   rw[HE.out.1] at this
   exact⟨_,rfl,this,hB⟩
end
section
open Go.RowKit Go.Shelf Lib Str Limb
attribute [local go_sem] Oper.semAt_some
theorem zzt (a b:Nat) (ha:a<1000000000000000000) (hb:b<1000000000000000000) (w:zA):
 zC zF 65 #[I a,I b] w λe w'=>∃nd,e=.returned (I (Nat.gcd a b))/\w'=w.drewN nd:=by
 obtain⟨g,hg⟩:∃g,g=Nat.gcd a b:=⟨_,rfl⟩
 rw[<-hg]
 have HG:=hid hg;clear hg
 go_enter Tryz.func65,Tryz.ntmps65
 go_wp2
 go_loopw [0,1] (λx y wr=>∃m n:Nat,x=I m/\y=I n/\Hid (Nat.gcd m n=g)/\m<1000000000000000000/\n<1000000000000000000/\∃nd,wr=w.drewN nd)
  (λ_ y _=>(zL y).toNat)
 case atStart=>exact⟨a,b,rfl,rfl,HG.out.symm,ha,hb,0,rfl⟩
 case round=>
  clear ha hb
  obtain⟨m,n,rfl,rfl,hgm,m1,n1,nd,rfl⟩:=hrel
  by_cases h0:n=0
  ·subst h0
   have hm:m=g:=by have:=hgm.out;rw[Nat.gcd_zero_right] at this;exact this
   have HM:=hid hm;clear hm
   go_wp2
   go_ret
   exact⟨nd,by rw[HM.out];rfl,rfl⟩
  ·have hn0:((n:Int) !=0)=true:=by simp;omega
   obtain⟨t,ht⟩:∃t,t=m%n:=⟨_,rfl⟩
   have ht1:t<n:=by rw[ht];exact Nat.mod_lt _ (by omega)
   have hgt:=zh1 m n
   rw[<-ht] at hgt
   have hwr:IntKind.i64.wrap ((m:Int).tmod n)=(t:Int):=by
    rw[Int.tmod_eq_emod_of_nonneg (by omega),<-Int.natCast_emod,<-ht];exact zI _ (by omega)
   have hwe:((m:Int).tmod n)=(t:Int):=by rw[Int.tmod_eq_emod_of_nonneg (by omega),<-Int.natCast_emod,<-ht]
   have HGT:=hid hgt;have HW:=hid hwe;clear hgt ht hwe
   go_wp2
   (refine wp_region_quiet_lit (by kernel_rfl) (by kernel_rfl) (WQ.out ?_);(repeat(first|(apply WQ.read (by rfl);(focus(rintro W ⟨n,rfl⟩;go_simp;try with_reducible rfl));try simp only[zzQ])|(apply WQ.skip (by rfl);try simp only[zzQ])));refine WQ.nil ?_;rintro _ ⟨nq,rfl⟩)
   go_wp2
   go_roundw
   case rel=>exact⟨n,t,rfl,by first|rfl|(rw[HW.out])|(show Value.int .i64 _=Value.int .i64 _;congr 1;have:=HW.out;rw[<-this,Int.tmod_eq_emod_of_nonneg (by omega)]),HGT.out.trans hgm.out,n1,by omega,_,World.drewN_drewN _ _ _⟩
   case measure=>first|(show((m:Int).tmod n).toNat<(n:Int).toNat;rw[HW.out];omega)|(simp[zL];omega)
theorem zdd (l:List UInt8) (s:ByteArray) (hs:s=⟨l.toArray⟩):s.size=l.length/\∀k (hk:k<l.length) (hb:k<s.size),s[k]'hb=l[k]'hk:=by
 subst hs
 exact⟨by show l.toArray.size=_;simp,λk hk hb=>rfl⟩
theorem ztc (l:List UInt8):zds l↔l.length≠0/\¬(1<l.length/\l.head? =some 48)/\∀k (hk:k<l.length),48<=(l[k]'hk).toNat/\(l[k]'hk).toNat<=57:=by
 constructor
 ·rintro⟨h1,h2,h3⟩
  exact⟨λh=>h1 (List.length_eq_zero_iff.1 h),λ⟨h4,h5⟩=>by have:=h3 h5;omega,λk hk=>h2 _ (zY hk)⟩
 ·rintro⟨h1,h2,h3⟩
  refine⟨λh=>h1 (by rw[h];rfl),λc hc=>?_,λh=>?_⟩
  ·obtain⟨k,hk,rfl⟩:=List.getElem_of_mem hc
   exact h3 k hk
  ·exact Nat.le_antisymm (Nat.le_of_not_lt λh4=>h2 ⟨h4,h⟩) (by omega)
theorem zme (l:List UInt8) (hl:l.length<=1000000) (w:zA):
 zC zF 64 #[St l] w λe w'=>∃b,e=.returned (.bool b)/\(b=true↔zds l)/\w'=w:=by
 rw[ztc]
 obtain⟨s,hs⟩:∃s:ByteArray,s=⟨l.toArray⟩:=⟨_,rfl⟩
 obtain⟨b1,b2⟩:=zdd l s hs
 show zC _ _ #[.string ⟨l.toArray⟩] _ _
 rw[<-hs]
 have hh:∀hb:0<s.size,l.head? =some 48↔(s[0]'hb).toNat=48:=λhb=>by
  have h0:0<l.length:=by omega
  rw[b2 0 h0 hb,List.head?_eq_getElem?,yB h0]
  constructor
  ·intro h;injection h with h;rw[h];rfl
  ·intro h;congr 1;exact UInt8.toNat_inj.1 (by rw[h];rfl)
 obtain⟨Q,hQ⟩:∃Q:Prop,Q=(l.length≠0/\¬(1<l.length/\l.head? =some 48)/\∀k (hk:k<l.length),48<=(l[k]'hk).toNat/\(l[k]'hk).toNat<=57):=⟨_,rfl⟩
 rw[<-hQ]
 have q1:s.size=0->¬Q:=λh=>by rw[hQ];exact λk=>k.1 (by omega)
 have q2:∀hb:0<s.size,1<s.size->(s[0]'hb).toNat=48->¬Q:=λhb h h'=>by rw[hQ];exact λk=>k.2.1 ⟨by omega,(hh hb).2 h'⟩
 have q3:∀k (hb:k<s.size),((s[k]'hb).toNat<48\/57<(s[k]'hb).toNat)->¬Q:=λk hb h=>by
  rw[hQ];intro k'
  have:=k'.2.2 k (by omega);rw[b2 k (by omega) hb] at h;omega
 have q4:∀hb:0<s.size,¬(1<s.size/\(s[0]'hb).toNat=48)->(∀k (hb:k<s.size),48<=(s[k]'hb).toNat/\(s[k]'hb).toNat<=57)->Q:=λhb h h'=>by
  rw[hQ];exact⟨by omega,λ⟨k1,k2⟩=>h ⟨by omega,(hh hb).1 k2⟩,λk hk=>by have:=h' k (by omega);rwa [b2 k hk (by omega)] at this⟩
 have hsz:s.size<=1000000:=by omega
 have Q1:=hid q1;have Q2:=hid q2;have Q3:=hid q3;have Q4:=hid q4
 clear q1 q2 q3 q4 hh hQ b1 b2 hs hl
 go_enter Tryz.func64,Tryz.ntmps64
 by_cases h0:s.size=0
 ·have h0':((s.size:Int)==0)=true:=by simpa using h0
  go_wp2
  go_ret
  exact⟨false,rfl,⟨λh=>by simp at h,λh=>absurd h (Q1.out h0)⟩,rfl⟩
 ·have h0':((s.size:Int)==0)=false:=by simpa using h0
  have h00:0<s.size:=by omega
  by_cases h1:1<s.size
  ·have h1':(1:Int)<s.size:=by omega
   by_cases h2:(s[0]'h00).toNat=48
   ·have h2':(((s[0]'h00).toNat:Int)==48)=true:=by rw[h2];rfl
    have HN:=hid (Q2.out h00 h1 h2);clear h2
    go_wp2
    go_ret
    exact⟨false,rfl,⟨λh=>by simp at h,λh=>absurd h HN.out⟩,rfl⟩
   ·have h2':(((s[0]'h00).toNat:Int)==48)=false:=by rw[beq_eq_false_iff_ne];omega
    have HN:=hid h2;clear h2
    go_wp2
    go_loop [3] (λi=>∃k:Nat,k<=s.size/\i=.int .i64 k/\Hid (∀j (hb:j<s.size),j<k->48<=(s[j]'hb).toNat/\(s[j]'hb).toNat<=57)) (λi=>s.size-(zL i).toNat)
    case atStart=>exact⟨0,zR _,rfl,λj _ h=>by omega⟩
    case round=>
     obtain⟨k,hk,rfl,hP⟩:=hrel
     by_cases hlt:k<s.size
     ·by_cases d1:(s[k]'hlt).toNat<48
      ·have e1:(((s[k]'hlt).toNat:Int))<48:=by omega
       have HN:=hid (Q3.out k hlt (.inl d1));clear d1
       go_wp2
       go_ret
       first|exact .inl ⟨rfl,HN.out,rfl⟩|exact⟨false,rfl,⟨λh=>by simp at h,λh=>absurd h HN.out⟩,rfl⟩
      ·by_cases d2:57<(s[k]'hlt).toNat
       ·have e1:(48:Int)<=(s[k]'hlt).toNat:=by omega
        have e2:(57:Int)<(s[k]'hlt).toNat:=by omega
        have HN:=hid (Q3.out k hlt (.inr d2));clear d1 d2
        go_wp2
        go_ret
        first|exact .inl ⟨rfl,HN.out,rfl⟩|exact⟨false,rfl,⟨λh=>by simp at h,λh=>absurd h HN.out⟩,rfl⟩
       ·have e1:(48:Int)<=(s[k]'hlt).toNat:=by omega
        have e2:((s[k]'hlt).toNat:Int)<=57:=by omega
        have hnext:∀j (hb:j<s.size),j<k+1->48<=(s[j]'hb).toNat/\(s[j]'hb).toNat<=57:=λj hb h=>by
         by_cases e:j=k
         ·subst e;omega
         ·exact hP.out j hb (by omega)
        have HN:=hid hnext;clear hnext d1 d2
        go_wp2
        go_round
        case rel=>exact⟨k+1,by omega,by go_num,HN⟩
        case measure=>simp[zL];omega
     ·have hq:=Q4.out h00 (λh=>HN.out h.2) (λj hb=>hP.out j hb (by omega))
      have HQ:=hid hq;clear hq
      go_wp2
      go_ret
      first|exact .inr ⟨rfl,HQ.out,rfl⟩|exact⟨true,rfl,⟨λ_=>HQ.out,λ_=>rfl⟩,rfl⟩
  ·have h1':¬(1:Int)<s.size:=by omega
   go_wp2
   go_loop [3] (λi=>∃k:Nat,k<=s.size/\i=.int .i64 k/\Hid (∀j (hb:j<s.size),j<k->48<=(s[j]'hb).toNat/\(s[j]'hb).toNat<=57)) (λi=>s.size-(zL i).toNat)
   case atStart=>exact⟨0,zR _,rfl,λj _ h=>by omega⟩
   case round=>
    obtain⟨k,hk,rfl,hP⟩:=hrel
    by_cases hlt:k<s.size
    ·by_cases d1:(s[k]'hlt).toNat<48
     ·have e1:(((s[k]'hlt).toNat:Int))<48:=by omega
      have HN:=hid (Q3.out k hlt (.inl d1));clear d1
      go_wp2
      go_ret
      first|exact .inl ⟨rfl,HN.out,rfl⟩|exact⟨false,rfl,⟨λh=>by simp at h,λh=>absurd h HN.out⟩,rfl⟩
     ·by_cases d2:57<(s[k]'hlt).toNat
      ·have e1:(48:Int)<=(s[k]'hlt).toNat:=by omega
       have e2:(57:Int)<(s[k]'hlt).toNat:=by omega
       have HN:=hid (Q3.out k hlt (.inr d2));clear d1 d2
       go_wp2
       go_ret
       first|exact .inl ⟨rfl,HN.out,rfl⟩|exact⟨false,rfl,⟨λh=>by simp at h,λh=>absurd h HN.out⟩,rfl⟩
      ·have e1:(48:Int)<=(s[k]'hlt).toNat:=by omega
       have e2:((s[k]'hlt).toNat:Int)<=57:=by omega
       have hnext:∀j (hb:j<s.size),j<k+1->48<=(s[j]'hb).toNat/\(s[j]'hb).toNat<=57:=λj hb h=>by
        by_cases e:j=k
        ·subst e;omega
        ·exact hP.out j hb (by omega)
       have HN:=hid hnext;clear hnext d1 d2
       go_wp2
       go_round
       case rel=>exact⟨k+1,by omega,by go_num,HN⟩
       case measure=>simp[zL];omega
    ·have hq:=Q4.out h00 (λh=>h1 h.1) (λj hb=>hP.out j hb (by omega))
     have HQ:=hid hq;clear hq
     go_wp2
     go_ret
     first|exact .inr ⟨rfl,HQ.out,rfl⟩|exact⟨true,rfl,⟨λ_=>HQ.out,λ_=>rfl⟩,rfl⟩
theorem znz (l:List UInt8) (hd:∀c∈l,48<=c.toNat/\c.toNat<=57) (hl:l.length<=9) (w:zA):
 zC zF 66 #[St l] w λe w'=>e=.returned (I (val l))/\w'=w:=by
 obtain⟨s,hs⟩:∃s:ByteArray,s=⟨l.toArray⟩:=⟨_,rfl⟩
 obtain⟨b1,b2⟩:=zdd l s hs
 have hvt:=λk hk=>ziu (l:=l) hd (k:=k) hk
 have hst:∀k (hb:k<s.size),48<=(s[k]'hb).toNat/\(s[k]'hb).toNat<=57/\val (l.take (k+1))=10*val (l.take k)+((s[k]'hb).toNat-48):=λk hb=>by
  have hk:k<l.length:=by omega
  rw[b2 k hk hb,List.take_succ_eq_append_getElem hk,zde]
  exact⟨(hd _ (zY hk)).1,(hd _ (zY hk)).2,rfl⟩
 have hfull:val (l.take s.size)=val l:=by rw[b1,List.take_length]
 show zC _ _ #[.string ⟨l.toArray⟩] _ _
 rw[<-hs]
 have hs9:s.size<=9:=by omega
 generalize hvf:(λk=>val (l.take k))=vf at*
 have hvt':∀k,k<=9->vf k<1000000000:=by rw[<-hvf];exact hvt
 have hst':∀k (hb:k<s.size),48<=(s[k]'hb).toNat/\(s[k]'hb).toNat<=57/\vf (k+1)=10*vf k+((s[k]'hb).toNat-48):=by rw[<-hvf];exact hst
 have hfull':vf s.size=val l:=by rw[<-hvf];exact hfull
 have hv0:vf 0=0:=by rw[<-hvf];rfl
 generalize val l=vl at*
 have VT:=hid hvt';have ST:=hid hst';have HF:=hid hfull';have V0:=hid hv0
 clear hvt' hst' hfull' hv0 hvt hst hfull hvf b1 b2 hs hd hl
 go_enter Tryz.func66,Tryz.ntmps66
 go_wp2
 go_loop [3,4] (λa i=>∃k:Nat,k<=s.size/\i=.int .i64 k/\a=.int .i64 (vf k:Nat)) (λ_ i=>s.size-(zL i).toNat)
 case atStart=>exact⟨0,zR _,rfl,by rw[V0.out];rfl⟩
 case round=>
  obtain⟨k,hk,rfl,rfl⟩:=hrel
  by_cases hlt:k<s.size
  ·obtain⟨c1,c2,c3⟩:=ST.out k hlt
   have hv:=VT.out k (by omega)
   generalize vf k=v at*
   have C3:=hid c3;clear c3
   have d1:(48:Int)<=(s[k].toNat:Int):=by omega
   have d2:(s[k].toNat:Int)<=57:=by omega
   go_wp2
   go_round
   case rel=>exact⟨k+1,by omega,by go_num,by rw[C3.out];show Value.int .i64 _=Value.int .i64 _;congr 1;omega⟩
   case measure=>simp[zL];omega
  ·have hk':k=s.size:=by omega
   have HK:=hid hk';clear hk'
   go_wp2
   go_ret
   exact⟨by rw[HK.out,HF.out];rfl,rfl⟩
end
end Go.Proofs.YtpichfafdcfbhaaGreatDoor
