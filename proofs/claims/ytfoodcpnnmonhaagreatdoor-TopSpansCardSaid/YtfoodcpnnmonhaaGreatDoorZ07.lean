/- root.nativeNormal at a square; rational.Of at an integer. -/
import Derived.Test.YtfoodcpnnmonhaaGreatDoorZ06
import Derived.Test.YtfoodcpnnmonhaaGreatDoorRows
import Derived.ProofKit
import Derived.Lib.LaidU8
import Derived.HandedShaped
import Derived.Lay
import Derived.Shelf.Vars
import Derived.Carry
import Derived.Lib.SmallJoins
import Derived.OwnWalkIn
import Derived.Maps.AppendAt
set_option maxRecDepth 100000
set_option maxHeartbeats 8000000
open Go renaming World → zA, Calls → zC
open Go.RowKit renaming Below → zB, intOf → zL
open Go.Lib renaming decDigits → zD
open Go.Proofs.Tryz renaming prog → zF
open Go.World renaming alloc_heap_new → zG
open Go.IntWalk renaming i64_in → zI
open Go.Joins renaming cell_of_block → zJ
open Go.RowKit.Below renaming refl → zM
open Nat renaming le_refl → zN, le_trans → zO, zero_le → zR, pow_le_pow_right → yF, pow_succ → yO, mul_comm → yP, pos_of_ne_zero → yS
open List renaming getElem_mem → zY, getElem?_eq_getElem → yB
namespace Go.Proofs.YtfoodcpnnmonhaaGreatDoor
open Go.RowKit Go.Shelf Lib Str Limb
attribute [local go_sem] Oper.semAt_some
def prL:List Nat:=[2,3,5,7,11,13,17,19,23,29,31,37,41,43,47,53,59,61,67,71,73,79,83,89,97]
def prN (i:Nat):Nat:=prL.getD i 0
def prS (i:Nat):List UInt8:=([[50],[51],[53],[55],[49,49],[49,51],[49,55],[49,57],[50,51],[50,57],[51,49],[51,55],[52,49],[52,51],[52,55],[53,51],[53,57],[54,49],[54,55],[55,49],[55,51],[55,57],[56,51],[56,57],[57,55]]:List (List UInt8)).getD i []
def prV:Array Value:= #[.string ⟨#[50]⟩,.string ⟨#[51]⟩,.string ⟨#[53]⟩,.string ⟨#[55]⟩,.string ⟨#[49,49]⟩,.string ⟨#[49,51]⟩,.string ⟨#[49,55]⟩,.string ⟨#[49,57]⟩,.string ⟨#[50,51]⟩,.string ⟨#[50,57]⟩,.string ⟨#[51,49]⟩,.string ⟨#[51,55]⟩,.string ⟨#[52,49]⟩,.string ⟨#[52,51]⟩,.string ⟨#[52,55]⟩,.string ⟨#[53,51]⟩,.string ⟨#[53,57]⟩,.string ⟨#[54,49]⟩,.string ⟨#[54,55]⟩,.string ⟨#[55,49]⟩,.string ⟨#[55,51]⟩,.string ⟨#[55,57]⟩,.string ⟨#[56,51]⟩,.string ⟨#[56,57]⟩,.string ⟨#[57,55]⟩]
theorem z1r:∀i,i<25->prS i=zD (prN i)
 |0,_=>by show[50]=zD 2;rw[zae (by omega)];rfl
 |1,_=>by show[51]=zD 3;rw[zae (by omega)];rfl
 |2,_=>by show[53]=zD 5;rw[zae (by omega)];rfl
 |3,_=>by show[55]=zD 7;rw[zae (by omega)];rfl
 |4,_=>by show[49,49]=zD 11;rw[zav (by omega),zae (by omega)];rfl
 |5,_=>by show[49,51]=zD 13;rw[zav (by omega),zae (by omega)];rfl
 |6,_=>by show[49,55]=zD 17;rw[zav (by omega),zae (by omega)];rfl
 |7,_=>by show[49,57]=zD 19;rw[zav (by omega),zae (by omega)];rfl
 |8,_=>by show[50,51]=zD 23;rw[zav (by omega),zae (by omega)];rfl
 |9,_=>by show[50,57]=zD 29;rw[zav (by omega),zae (by omega)];rfl
 |10,_=>by show[51,49]=zD 31;rw[zav (by omega),zae (by omega)];rfl
 |11,_=>by show[51,55]=zD 37;rw[zav (by omega),zae (by omega)];rfl
 |12,_=>by show[52,49]=zD 41;rw[zav (by omega),zae (by omega)];rfl
 |13,_=>by show[52,51]=zD 43;rw[zav (by omega),zae (by omega)];rfl
 |14,_=>by show[52,55]=zD 47;rw[zav (by omega),zae (by omega)];rfl
 |15,_=>by show[53,51]=zD 53;rw[zav (by omega),zae (by omega)];rfl
 |16,_=>by show[53,57]=zD 59;rw[zav (by omega),zae (by omega)];rfl
 |17,_=>by show[54,49]=zD 61;rw[zav (by omega),zae (by omega)];rfl
 |18,_=>by show[54,55]=zD 67;rw[zav (by omega),zae (by omega)];rfl
 |19,_=>by show[55,49]=zD 71;rw[zav (by omega),zae (by omega)];rfl
 |20,_=>by show[55,51]=zD 73;rw[zav (by omega),zae (by omega)];rfl
 |21,_=>by show[55,57]=zD 79;rw[zav (by omega),zae (by omega)];rfl
 |22,_=>by show[56,51]=zD 83;rw[zav (by omega),zae (by omega)];rfl
 |23,_=>by show[56,57]=zD 89;rw[zav (by omega),zae (by omega)];rfl
 |24,_=>by show[57,55]=zD 97;rw[zav (by omega),zae (by omega)];rfl
 |n+25,h=>absurd h (by omega)
theorem zw4:∀i,i<25->2<=prN i/\prN i<=97:=by decide
theorem z25 (i:Nat) (hi:i<25) (w:zA):(Instr.index 259 (.agg prV) (.int .i64 (i:Int))).run zF w=.ok (St (prS i)) w:=
 match i,hi with
 |0,_=>by kernel_rfl
 |1,_=>by kernel_rfl
 |2,_=>by kernel_rfl
 |3,_=>by kernel_rfl
 |4,_=>by kernel_rfl
 |5,_=>by kernel_rfl
 |6,_=>by kernel_rfl
 |7,_=>by kernel_rfl
 |8,_=>by kernel_rfl
 |9,_=>by kernel_rfl
 |10,_=>by kernel_rfl
 |11,_=>by kernel_rfl
 |12,_=>by kernel_rfl
 |13,_=>by kernel_rfl
 |14,_=>by kernel_rfl
 |15,_=>by kernel_rfl
 |16,_=>by kernel_rfl
 |17,_=>by kernel_rfl
 |18,_=>by kernel_rfl
 |19,_=>by kernel_rfl
 |20,_=>by kernel_rfl
 |21,_=>by kernel_rfl
 |22,_=>by kernel_rfl
 |23,_=>by kernel_rfl
 |24,_=>by kernel_rfl
 |n+25,h=>absurd h (by omega)
structure Pw (w:zA):Prop where
 prim:w.var? zF "kingpost/root.primes" =some prV
theorem Pw.below {w w':zA} (h:Pw w) (hb:qL w w'):Pw w':=by
 have hg:Tryz.prog.globalNamed "kingpost/root.primes" =some 1:=by kernel_rfl
 exact⟨var?_below hb hg (zv5 hg h.prim) h.prim⟩
theorem Pw.block {w:zA} (h:Pw w):∃t fz,w.heap[1]? =some (.cells prV t fz):=by
 have hg:Tryz.prog.globalNamed "kingpost/root.primes" =some 1:=by kernel_rfl
 have hv:=h.prim;unfold World.var? at hv;rw[hg] at hv;simp only[Option.bind_some] at hv
 cases hb:w.heap[(1:Nat)]? with
 |none=>rw[hb] at hv;cases hv
 |some x=>
  rw[hb] at hv
  cases x with
  |cells cs t fz=>simp at hv;subst hv;exact⟨t,fz,rfl⟩
  |_=>cases hv
theorem z1s {c l p:Nat} (hp:p*p∣l):(c*p)*(c*p)*(l/(p*p))=c*c*l:=by
 obtain⟨k,rfl⟩:=hp;by_cases h:p*p=0
 ·rw[h];simp
 ·rw[Nat.mul_div_cancel_left _ (by omega)]
  simp only[Nat.mul_left_comm,yP]
end Go.Proofs.YtfoodcpnnmonhaaGreatDoor
namespace Go.Proofs.YtfoodcpnnmonhaaGreatDoor
open Go.RowKit Go.Shelf Lib Str Limb
open Go.ChangeShapes Go.WideShapes Go.ChangeAt
theorem zf9 {H:Type} {enc:TypeId×Value->H} {a:Assume} {C:Checked} {os:Os} {f:FuncId} {fn:Func} {s:ChangeSpec} {conds:List PathCond} {apart fresh handsOn again:Bool} {X:zA->Array Value->Prop}
 (hX:∀(w w':zA) (args:Array Value),w.heap=w'.heap->X w args->X w' args)
 (own:ownKnob C.prog.godebug=none) (started:os.Started) (noInit:C.prog.inits.idxOf? f=none) (hfn:C.prog.funcs[f]? =some fn)
 (witness:∃(w:zA) (tape:Tape) (i:Input),w.os=os/\(w.forCall tape i).Shaped C.prog/\i.vars=[]/\Input.okWide C.prog (w.forCall tape i) .any w.heap.size f i/\
   ((s.pre enc C.prog fn conds apart (w.forCall tape i).memory i.args/\X (w.forCall tape i).memory i.args)/\sizedMet enc C.prog fn (OpenSpec.ofChange s) apart (w.forCall tape i).memory i.args)/\a.holds C.prog (lone (Frame.enter C.prog f i.args .normal) [] (w.forCall tape i)))
 (contract:∀(W:zA) (args:Array Value) (ds gs:List (DataW H)) (before:List MemPlace) (base:Nat),
   (∀(j:Nat) t v,fn.params[j]? =some t->args[j]? =some v->Value.okWide C.prog W .any base t v)->
   DataW.Whole enc C.prog fn.params.toList s.vars apart W args.toList ds gs before->X W args->W.ShapedOpen C.prog->
   zC C.prog f args W λe W'=>∃v,e=.returned v/\s.post enc C.prog fn apart fresh handsOn again W args v W'):
 ReturnsInHanded a C os f .any (λw args=>(s.pre enc C.prog fn conds apart w args/\X w args)/\sizedMet enc C.prog fn (OpenSpec.ofChange s) apart w args) (s.post enc C.prog fn apart fresh handsOn again):=by
 refine returnsInHanded_of_calls own started noInit witness ?_;rintro w tape i _ hsh _ ⟨_,_,_,fn',hfn',_,_,_,_,hval⟩ ⟨⟨⟨ds,gs,before,hw,_⟩,hx⟩,_⟩ _;obtain rfl:fn'=fn:=Option.some.inj (hfn'.symm.trans hfn);refine(contract (w.forCall tape i) i.args ds gs before w.heap.size hval (DataW.Whole.of_heap (w':=w.forCall tape i) (by rfl) hw) (hX _ _ _ (by rfl) hx) hsh).mono ?_;rintro e W' ⟨v,rfl,hp⟩;exact ChangeSpec.post_blind hp
theorem zp7 {H:Type} {enc:TypeId×Value->H} {P:Program} {w:zA} {base:Nat} {sp:Nat->Bool} {held:Bool} {fuel:Nat} {t e:TypeId} {n:Nat} {cs:List Value} {ss:List (List UInt8)} {p:List MemPlace}
 (ht:P.underlying t=some (.array n e)) (he:P.underlying e=some .string) (hce:P.cellsOf e=1) (hct:P.cellsOf t=n) (hsl:ss.length=n)
 (h:DataW.trod enc P w base sp held fuel t cs=some (.agg (ss.map λs=>.lit (.string s)),p)):cs=ss.map λs=>Value.string ⟨s.toArray⟩:=by
 have hcl:cs.length=n:=by
  cases fuel with
  |zero=>simp[DataW.trod] at h
  |succ fuel=>
   have h0:=h;simp only[DataW.trod,ht,hce,hct,Nat.mul_one] at h0;split at h0
   ·rename_i hl;exact hl
   ·cases h0
 apply List.ext_getElem?;intro i;by_cases hi:i<n
 ·obtain⟨fu,d,q,hd,htr⟩:=array_elem ht h i hi
  rw[hce] at htr;obtain⟨s,hs,hx,_⟩:=DataW.trod_string he htr;simp only[Prod.mk.injEq] at hx;obtain⟨rfl,_⟩:=hx;have h1:cs[i]? =some (.string s):=by
   have:=congrArg (·[0]?) hs;simpa [List.getElem?_take,List.getElem?_drop] using this
  rw[List.getElem?_map,Option.map_eq_some_iff] at hd;obtain⟨l,hl,e⟩:=hd;simp only[DataW.lit.injEq,Lit.string.injEq] at e;rw[h1,List.getElem?_map,hl,e];rfl
 ·rw[List.getElem?_eq_none (by omega),List.getElem?_eq_none (by simp;omega)]
theorem z0v {l:List (String×DataW Unit)} {W:zA} (hL:laidMet zF l W) (hm:("internal/strconv.uint64pow10",Rows.laid_internal_strconv_uint64pow10)∈l) (hs:W.ShapedOpen zF):Wd W:=by
 obtain⟨g,t,cs,fuel,p,hg,ht,hv,hd⟩:=Lib.laidMet.reads hL hm;obtain rfl:g=2:=Option.some.inj (hg.symm.trans (by kernel_rfl));obtain rfl:t=279:=Option.some.inj (ht.symm.trans (by kernel_rfl));have e:(Rows.laid_internal_strconv_uint64pow10:DataW Unit)=Lib.tabData .u64 Lib.pow10Tab:=by kernel_rfl
 rw[e] at hd;have hc:=Lib.cells_of_tab (n:=20) Tryz.underlying279 Tryz.underlying235 (by kernel_rfl) (by kernel_rfl) hd;refine⟨?_,Proofs.cell_of_shapedOpen_int (t:=3) (zero:= #[.int .i64 0]) hs (of_decide_eq_true (by kernel_rfl)) (by kernel_rfl) rfl (by kernel_rfl) (by kernel_rfl) Tryz.underlying3⟩;unfold Lib.TabIs;rw[hv,<-hc]
theorem zzj:prV.toList=([[50],[51],[53],[55],[49,49],[49,51],[49,55],[49,57],[50,51],[50,57],[51,49],[51,55],[52,49],[52,51],[52,55],[53,51],[53,57],[54,49],[54,55],[55,49],[55,51],[55,57],[56,51],[56,57],[57,55]]:List (List UInt8)).map λs=>Value.string ⟨s.toArray⟩:=by kernel_rfl
theorem z0w {l:List (String×DataW Unit)} {W:zA} (hL:laidMet zF l W) (hm:("kingpost/root.primes",Rows.laid_kingpost_root_primes)∈l):Pw W:=by
 obtain⟨g,t,cs,fuel,p,hg,ht,hv,hd⟩:=Lib.laidMet.reads hL hm;obtain rfl:g=1:=Option.some.inj (hg.symm.trans (by kernel_rfl));obtain rfl:t=259:=Option.some.inj (ht.symm.trans (by kernel_rfl));have e:(Rows.laid_kingpost_root_primes:DataW Unit)=.agg (([[50],[51],[53],[55],[49,49],[49,51],[49,55],[49,57],[50,51],[50,57],[51,49],[51,55],[52,49],[52,51],[52,55],[53,51],[53,57],[54,49],[54,55],[55,49],[55,51],[55,57],[56,51],[56,57],[57,55]]:List (List UInt8)).map λs=>.lit (.string s)):=by kernel_rfl
 rw[e] at hd;have hc:=zp7 (n:=25) Tryz.underlying259 Tryz.underlying9 (by kernel_rfl) (by kernel_rfl) (by decide) hd;obtain rfl:cs=prV:=Array.toList_inj.1 (hc.trans zzj.symm);exact⟨hv⟩
theorem zrj:ownKnob Tryz.prog.godebug=none:=by kernel_rfl
theorem zgh:laidOutB zF=true:=by kernel_rfl
end Go.Proofs.YtfoodcpnnmonhaaGreatDoor
namespace Go.Proofs.YtfoodcpnnmonhaaGreatDoor
open Go.RowKit Go.Shelf Lib Str Limb
attribute [local go_sem] Oper.semAt_some
theorem zti (x u v s1 s2:ByteArray) (m d:Int) (hu:(u.toList==[48])=false) (hl:(u.size:Int)+v.size<=17) (hl0:u.size<=17/\v.size<=17)
 (CK:Hid (∀W:zA,Wd W->zC zF 159 #[.slice (some ⟨W.heap.size,0,none⟩) 1 1,.slice (some ⟨W.heap.size+1,0,none⟩) 1 1] ((W.alloc (.cells #[.string x] 23)).alloc (.cells #[.string x] 23)) λe w'=>e=.returned (.int .i64 0)/\zB W.heap.size W w'))
 (O:Hid (qK 160 #[.string x] (.agg #[.string u,.string v])))
 (NU:Hid (qK 161 #[.string u] (.tuple #[.int .i64 m,.bool true])))
 (NV:Hid (qK 161 #[.string v] (.tuple #[.int .i64 d,.bool true])))
 (NN:Hid (∀W:zA,Wd W->Pw W->qJ 162 #[.int .i64 m,.int .i64 d] W (.tuple #[.string s1,.string s2])))
 (w:zA) (HW:Hid (Wd w)) (HP:Hid (Pw w)):
 qJ 96 #[.string x] w (.tuple #[.string s1,.string s2,.int .i64 0]):=by
 have hck:=CK.out w HW.out;have HCK:=hid hck;clear hck CK;have hwl:IntKind.i64.wrap ((u.size:Int)+v.size)=(u.size:Int)+v.size:=zI _ ⟨by omega,by omega⟩;go_enter Tryz.func96,Tryz.ntmps96;go_wp21;refine zzM HCK.out λw1 hb1=>?_;have HB1:=hid hb1;clear hb1 HCK;go_wp21;refine zzM (O.out w1 (HW.out.below HB1.out)) λw2 hb2=>?_;have HB2:=qT HB1 hb2;clear hb2 HB1;obtain⟨w3,hw3⟩:=zzX (w2.alloc (.cells #[.string u,.string v] 195));have ha:qL w2 w3:=by rw[hw3];exact(zM _ w2).alloc (zN _) _
 have A3:w3.heap[w2.heap.size]? =some (.cells #[.string u,.string v] 195 (0,0)):=by rw[hw3];exact zG w2 _
 have HB3:=qT HB2 ha;have c0:w3.cell? ⟨w2.heap.size,0,none⟩=some (.string u):=by rw[zJ A3];rfl
 have c1:w3.cell? ⟨w2.heap.size,1,none⟩=some (.string v):=by rw[zJ A3];rfl
 have C3:=hid (⟨c0,c1⟩:w3.cell? ⟨w2.heap.size,0,none⟩=some (.string u)/\w3.cell? ⟨w2.heap.size,1,none⟩=some (.string v));rw[hw3] at c0 c1;have HW3:=hid hw3;clear hw3 ha A3;go_wp21;rw[<-HW3.out];clear c0 c1;refine zzM (NU.out w3 (HW.out.below HB3.out)) λw4 hb4=>?_;have HB4:=qT HB3 hb4;have c0:=(zac hb4).cell C3.out.1;have c1:=(zac hb4).cell C3.out.2;clear hb4 HW3;go_wp21;refine zzM (NV.out w4 (HW.out.below HB4.out)) λw5 hb5=>?_;have HB5:=qT HB4 hb5;clear hb5 c0 c1;go_wp21;refine zzM (NN.out w5 (HW.out.below HB5.out) (HP.out.below HB5.out)) λw6 hb6=>?_;have HB6:=qT HB5 hb6;clear hb6;go_wp21;go_ret3;exact⟨rfl,HB6.out⟩
theorem zc5 (n:Nat):numS ((n:Int):Rat)=zD n:=by rw[zha,Str.zad]
theorem zki {n k:Nat} (hk:0<k) (h:n<10^k):(zD n).length<=k:=(zaf n k hk).2 h
theorem z0b (W:zA) (t:TypeId) (x:List UInt8) (q:Rat) (hx:numS q=x):
 RowNums (some ⟨W.heap.size,0,none⟩) 1 (λ_=>q) ((W.alloc (.cells #[St x] t)).alloc (.cells #[St x] t))/\
 RowNums (some ⟨W.heap.size+1,0,none⟩) 1 (λ_=>q) ((W.alloc (.cells #[St x] t)).alloc (.cells #[St x] t)):=by
 have b1:=(Boxed.new W t (St x)).alloc (.cells #[St x] t);have b2:=Boxed.new (W.alloc (.cells #[St x] t)) t (St x);rw[World.size_alloc] at b2;constructor
 ·intro i hi
  obtain rfl:i=0:=by omega
  exact⟨_,_,rfl,by rw[hx];exact b1.cell⟩
 ·intro i hi
  obtain rfl:i=0:=by omega
  exact⟨_,_,rfl,by rw[hx];exact b2.cell⟩
end Go.Proofs.YtfoodcpnnmonhaaGreatDoor
namespace Go.Proofs.YtfoodcpnnmonhaaGreatDoor
theorem ztp {n s x:Nat} (hx:0<x) (hs:s*s<=n) (hsx:s<=x):s<=(x+n/x)/2:=by
 obtain⟨d,rfl⟩:∃d,x=s+d:=⟨x-s,by omega⟩;rw[Nat.le_div_iff_mul_le (by omega)];by_cases h:d<=s
 ·obtain⟨e,rfl⟩:∃e,s=d+e:=⟨s-d,by omega⟩
  have h1:e<=n/(d+e+d):=by
   rw[Nat.le_div_iff_mul_le hx];refine zO ?_ hs;have:(d+e)*(d+e)=e*(d+e+d)+d*d:=by
    simp only[Nat.mul_add,Nat.add_mul,yP d e];omega
   omega
  generalize n/(d+e+d)=q at*
  omega
 ·generalize n/(s+d)=q
  omega
theorem zrf {n x:Nat} (hx:0<x) (h:x<=(x+n/x)/2):x*x<=n:=by
 have h2:x<=n/x:=by
  generalize n/x=q at*
  omega
 exact(Nat.le_div_iff_mul_le hx).1 h2
end Go.Proofs.YtfoodcpnnmonhaaGreatDoor
namespace Go.Proofs.YtfoodcpnnmonhaaGreatDoor
open Go.RowKit Go.Shelf Lib Str Limb
attribute [local go_sem] Oper.semAt_some
theorem w64 {z:Int} (h: -9223372036854775808<=z/\z<=9223372036854775807):wrap64 z=z:=by unfold wrap64;omega
theorem znv {n x q:Nat} (hn:n<1000000000000000000) (hx:1<=x) (hx2:x<=n) (hq:n/x=q):wrap64 ((n:Int)/(x:Int))=(q:Int)/\IntKind.i64.wrap ((x:Int)+(q:Int))=(x:Int)+(q:Int)/\
 wrap64 (((x:Int)+(q:Int))/2)=(((x+q)/2:Nat):Int)/\IntKind.i64.wrap ((x:Int)*2)=((x*2:Nat):Int)/\IntKind.i64.wrap ((n:Int).tdiv (x:Int))=(q:Int)/\IntKind.i64.wrap (((x:Int)+(q:Int)).tdiv 2)=(((x+q)/2:Nat):Int):=by
 have hqn:q<=n:=by rw[<-hq];exact Nat.div_le_self _ _
 have e1:(n:Int)/(x:Int)=(q:Int):=by rw[<-hq];exact(Int.natCast_ediv n x).symm
 have e2:((x:Int)+(q:Int))/2=(((x+q)/2:Nat):Int):=by omega
 have e3:(n:Int).tdiv (x:Int)=(q:Int):=by rw[Int.tdiv_eq_ediv_of_nonneg (by omega)];exact e1
 have e4:((x:Int)+(q:Int)).tdiv 2=(((x+q)/2:Nat):Int):=by rw[Int.tdiv_eq_ediv_of_nonneg (by omega)];exact e2
 refine⟨by rw[e1];exact w64 ⟨by omega,by omega⟩,zI _ ⟨by omega,by omega⟩,by rw[e2];exact w64 ⟨by omega,by omega⟩,?_,by rw[e3];exact zI _ ⟨by omega,by omega⟩,by rw[e4];exact zI _ ⟨by omega,by omega⟩⟩;rw[zI _ ⟨by omega,by omega⟩];omega
theorem zd3 (t:ByteArray) (n s:Nat) (h0:1<=n) (HN:Hid (n<1000000000000000000)) (HS:Hid (s*s<=n/\n<(s+1)*(s+1)))
 (AT:Hid (∀W:zA,qJ 150 #[.string t] W (.tuple #[.int .i64 (n:Int),.nilIface])))
 (IT:Hid (qK 33 #[.int .i64 (s:Int)] (.string ⟨(zD s).toArray⟩))) (w:zA) (HW:Hid (Wd w)):
 qJ 192 #[.string t] w (.tuple #[St (zD s),.int .i64 0]):=by
 go_enter Tryz.func192,Tryz.ntmps192;go_wp2_with fail;refine zzM (AT.out w) λw1 hb1=>?_;have HB1:=hid hb1;clear hb1 AT;go_wp2_with fail;go_loopw [6] (λi wr=>∃(x:Nat),1<=x/\x<=n/\i=.int .i64 (x:Int)/\Hid (wr=w1))
  (λi _=>n-(zL i).toNat)
 case atStart=>exact⟨1,zN _,h0,rfl,hid rfl⟩
 case round=>
  obtain⟨x,hx,hxn,rfl,hE⟩:=hrel;obtain rfl:=hE.out.symm;clear hE;have hx0:¬x=0:=by omega
  have HQ:=hid (show ∀q,n/x=q->(x<q->x*2<=n)/\(¬x<q->s<=x) from λq hq=>by
   subst hq;refine⟨λh=>?_,λh=>?_⟩
   ·have h1:x+1<=n/x:=h
    have h2:=(Nat.le_div_iff_mul_le (by omega)).1 h1;have h3:x*2<=(x+1)*x:=by
     rw[yP x 2];exact Nat.mul_le_mul (by omega) (zN _)
    omega
   ·by_cases c:s<=x
    ·exact c
    ·exfalso
     have h1:n/x<x+1:=by omega
     rw[Nat.div_lt_iff_lt_mul (by omega)] at h1;have h2:(x+1)*(x+1)<=s*s:=Nat.mul_le_mul (by omega) (by omega);have h3:(x+1)*x<=(x+1)*(x+1):=Nat.mul_le_mul (zN _) (by omega);have:=HS.out.1;omega)
  obtain⟨q,hq⟩:∃q,n/x=q:=⟨_,rfl⟩;have HQ2:=hid (HQ.out q hq);obtain⟨f1,f2,f3,f4,f5,f6⟩:=znv HN.out hx hxn hq;have HQQ:=hid hq;clear f2 f3 f6 hq HQ;by_cases hlt:x<q
  ·have hltI:(x:Int)<(q:Int):=by omega
   have hn2:=HQ2.out.1 hlt;clear hlt HQ2;go_wp2_with fail;go_roundw
   case rel=>exact⟨x*2,by omega,hn2,by rfl,hid trivial⟩
   case measure=>simp[zL];omega
  ·have hltI:¬(x:Int)<(q:Int):=by omega
   have hsx:=HQ2.out.2 hlt;clear hlt HQ2;go_wp2_with fail;clear f1 f4 f5 hx0 hltI HQQ;go_loopw [6] (λi wr=>∃(x:Nat),1<=x/\x<=n/\s<=x/\i=.int .i64 (x:Int)/\Hid (qL w wr))
    (λi _=>(zL i).toNat)
   case atStart=>exact⟨x,hx,hxn,hsx,rfl,HB1⟩
   case round=>
    clear hx hxn hsx;obtain⟨x,hx,hxn,hsx,rfl,hB⟩:=hrel;have hx0:¬x=0:=by omega
    obtain⟨q,hq⟩:∃q,n/x=q:=⟨_,rfl⟩;obtain⟨f1,f2,f3,f4,f5,f6⟩:=znv HN.out hx hxn hq;have g1:=ztp (by omega) HS.out.1 hsx;have g2:=zrf (n:=n) (x:=x) (by omega);rw[hq] at g1 g2;have g3:(x+q)/2≥x->x=s:=λh=>by
     have h1:=g2 h;by_cases c:x<=s
     ·omega
     ·have:=Nat.mul_le_mul (show s+1<=x by omega) (show s+1<=x by omega)
      have:=HS.out.2;omega
    have G:=hid (⟨g1,g3⟩:_/\_);clear g1 g2 g3 hq;generalize (x+q)/2=y at*
    by_cases hge:x<=y
    ·have hgeI:(x:Int)<=(y:Int):=by omega
     have hxs:=G.out.2 hge;subst hxs;have HI:=hid (IT.out wr (HW.out.below hB.out));clear hge G;go_wp2_with fail;refine zzM HI.out λw3 hb3=>?_;have HB3:=hid (hB.out.trans (hb3.mono hB.out.size));clear hb3 HI;go_wp2_with fail;go_ret2;exact⟨rfl,HB3.out⟩
    ·have hgeI:¬(x:Int)<=(y:Int):=by omega
     have hsy:=G.out.1;have hy1:1<=y:=by
      by_cases c:s=0
      ·have:=HS.out.2
       rw[c] at this;omega
      ·omega
     have hyx:y<x:=by omega
     clear hge G;go_wp2_with fail;go_roundw
     case rel=>exact⟨y,hy1,by omega,hsy,by rfl,hB⟩
     case measure=>simp[zL];omega
theorem zyc (n s L K X:Nat) (hK:(L+1)/2=K) (hL:L<=62) (HXK:Hid (X=2^K)) (h2:2<=n) (HN:Hid (n<1000000000000000000)) (HS:Hid (s*s<=n/\n<(s+1)*(s+1))) (HX:Hid (1<=X/\s<=X/\X<=n/\X<=4294967296))
 (BL:Hid (∀W:zA,zC zF 185 #[.int .u64 (n:Int)] W λe w'=>e=.returned (.int .i64 (L:Int))/\w'=W))
 (w:zA):
 zC zF 230 #[.int .i64 (n:Int)] w λe w'=>e=.returned (.int .i64 (s:Int))/\w'=w:=by
 have h2I:¬(n:Int)<2:=by omega
 have hu:IntKind.u64.wrap (n:Int)=(n:Int):=by have:=HN.out;unfold IntKind.wrap;simp[IntKind.signed,IntKind.bits];omega
 have hl1:wrap64 ((L:Int)+1)=(L:Int)+1:=by unfold wrap64;omega
 have hl2:wrap64 (((L:Int)+1).tdiv 2)=(K:Int):=by rw[Int.tdiv_eq_ediv_of_nonneg (by omega)];unfold wrap64;omega
 have hl3:wrap64 (((L:Int)+1)/2)=(K:Int):=by unfold wrap64;omega
 go_enter Tryz.func230,Tryz.ntmps230;go_wp21;refine(BL.out w).mono ?_;rintro e w1 ⟨rfl,rfl⟩;go_wp21;have hB0:w1=w1:=rfl;clear hu hl1 hl2 hl3 BL h2I hB0;go_loopw [3] (λi wr=>∃(x:Nat),1<=x/\s<=x/\x<=n/\i=.int .i64 (x:Int)/\Hid (wr=w1))
  (λi _=>(zL i).toNat)
 case atStart=>
  obtain⟨x1,x2,x3,x4⟩:=HX.out;refine⟨X,x1,x2,x3,?_,hid rfl⟩;have e:((X:Nat):Int)=2^K:=by rw[HXK.out];simp
  rw[hK,<-e];congr 1;exact w64 ⟨by omega,by omega⟩
 case round=>
  obtain⟨x,hx,hsx,hxn,rfl,hE⟩:=hrel;obtain rfl:=hE.out.symm;clear hE;have hx0:¬x=0:=by omega
  obtain⟨q,hq⟩:∃q,n/x=q:=⟨_,rfl⟩;obtain⟨f1,f2,f3,f4,f5,f6⟩:=znv HN.out hx hxn hq;have g1:=ztp (by omega) HS.out.1 hsx;have g2:=zrf (n:=n) (x:=x) (by omega);rw[hq] at g1 g2;have g3:(x+q)/2≥x->x=s:=λh=>by
   have h1:=g2 h;by_cases c:x<=s
   ·omega
   ·have:=Nat.mul_le_mul (show s+1<=x by omega) (show s+1<=x by omega)
    have:=HS.out.2;omega
  have G:=hid (⟨g1,g3⟩:_/\_);clear g1 g2 g3 hq;generalize (x+q)/2=y at*
  by_cases hge:x<=y
  ·have hgeI:(x:Int)<=(y:Int):=by omega
   have hxs:=G.out.2 hge;subst hxs;clear hge G;go_wp21;go_ret;exact⟨rfl,rfl⟩
  ·have hgeI:¬(x:Int)<=(y:Int):=by omega
   have hsy:=G.out.1;have hy1:1<=y:=by
    by_cases c:s=0
    ·have:=HS.out.2
     rw[c] at this;omega
    ·omega
   have hyx:y<x:=by omega
   clear hge G;go_wp21;go_roundw
   case rel=>exact⟨y,hy1,hsy,by omega,by rfl,hid trivial⟩
   case measure=>simp[zL];omega
theorem zsi:∀(f x:Nat),0<x->x<2^f->2^(bitLenAux f x-1)<=x/\x<2^bitLenAux f x/\1<=bitLenAux f x
 |0,x,h,k=>by simp at k;omega
 |f+1,x,h,k=>by
  unfold bitLenAux;rw[if_neg (by omega)];by_cases c:x=1
  ·subst c
   cases f with
   |zero=>simp[bitLenAux]
   |succ f=>simp[bitLenAux]
  ·have h2:0<x/2:=by omega
   obtain⟨i1,i2,i3⟩:=zsi f (x/2) h2 (by rw[yO] at k;omega);generalize bitLenAux f (x/2)=L at*
   refine⟨?_,?_,by omega⟩
   ·obtain⟨m,rfl⟩:∃m,L=m+1:=⟨L-1,by omega⟩
    rw[show 1+(m+1)-1=m+1 by omega,yO];rw[show m+1-1=m by omega] at i1;omega
   ·rw[Nat.add_comm,yO];omega
theorem ztm (n s:Nat) (hn:n<1000000000000000000) (hs:s*s<=n/\n<(s+1)*(s+1)) (w:zA):
 zC zF 230 #[.int .i64 (n:Int)] w λe w'=>e=.returned (.int .i64 (s:Int))/\w'=w:=by
 by_cases h2:2<=n
 ·obtain⟨b1,b2,b3⟩:=zsi 64 n (by omega) (by omega)
  have hbl:=λW=>Tryz.bits_Len (n:Int) W (by omega) (by omega);rw[Int.toNat_natCast] at hbl;change ∀W:zA,zC zF 185 #[.int .u64 (n:Int)] W λe w'=>e=.returned (.int .i64 ((bitLenAux 64 n:Nat):Int))/\w'=W at hbl;generalize bitLenAux 64 n=L at*
  have hL62:L<=62:=by
   by_cases c:L<=62
   ·exact c
   ·have:2^62<=2^(L-1):=yF (by omega) (by omega)
    omega
  have hL2:2<=L:=by
   by_cases c:2<=L
   ·exact c
   ·have:L=1:=by omega
    subst this;omega
  refine zyc n s L ((L+1)/2) (2^((L+1)/2)) rfl hL62 (hid rfl) h2 (hid hn) (hid hs) (hid ⟨yS (by simp),?_,?_,?_⟩) (hid hbl) w
  ·by_cases c:s<=2^((L+1)/2)
   ·exact c
   ·exfalso
    have h1:=Nat.mul_le_mul (show 2^((L+1)/2)<=s by omega) (show 2^((L+1)/2)<=s by omega);rw[<-Nat.pow_add] at h1;have:2^L<=2^((L+1)/2+(L+1)/2):=yF (by omega) (by omega);omega
  ·exact zO (yF (by omega) (by omega)) b1
  ·have:2^((L+1)/2)<=2^32:=yF (by omega) (by omega)
   omega
 ·have hlt:(n:Int)<2:=by omega
  have hns:n=s:=by
   by_cases c:n=0
   ·subst c
    by_cases d:s=0
    ·omega
    ·have:=Nat.mul_pos (show 0<s by omega) (show 0<s by omega);omega
   ·have h1:n=1:=by omega
    subst h1;by_cases d:s=1
    ·omega
    ·by_cases d0:s=0
     ·subst d0;omega
     ·have:=Nat.mul_le_mul (show 2<=s by omega) (show 2<=s by omega);omega
  subst hns;clear hs hn h2;go_enter Tryz.func230,Tryz.ntmps230;go_wp21;go_ret;exact⟨rfl,rfl⟩
theorem z7e {n s k:Nat} (hs:s*s<=n) (hn:n<10^(2*k)):s<=10^k:=by
 by_cases c:s<=10^k
 ·exact c
 ·exfalso
  have:=Nat.mul_le_mul (show 10^k<=s by omega) (show 10^k<=s by omega);rw[<-Nat.pow_add,show k+k=2*k by omega] at this;omega
theorem z4b:(zaa B9 2).map I=[I 2]:=by
 rw[<-zwd (r:=2) (by decide)];rfl
theorem z6c (W:zA):Sl (W.alloc (.cells #[I 2] 3)) (.slice (some ⟨W.heap.size,0,none⟩) 1 1) ((zaa B9 2).map I):=by
 rw[z4b];refine⟨some ⟨W.heap.size,0,none⟩,1,rfl,zN _,λi x hx=>⟨W.heap.size,0,rfl,?_⟩⟩;have A:=zG W (.cells #[I 2] 3)
 match i,hx with
 |0,hx=>exact(zJ A 0).trans (by rw[<-hx];rfl)
 |_+1,hx=>cases hx
theorem z7f (t z y:ByteArray) (n s k X:Nat) (HS:Hid (s*s<=n/\n<(s+1)*(s+1))) (hn1:1<=n) (hX:1<=X) (hsX:s<=X) (HL:Hid ((zaa B9 n).length<=400/\(zaa B9 X).length<=400/\(zaa B9 (X+n)).length<=400))
 (ht0:0<t.size) (h45:(((t[0]'ht0).toNat:Int)==45)=false) (h48:(t.toList==[48])=false) (hsz:¬(t.size:Int)<=18) (hsz2:t.size<=1000) (hk:(t.size+1)/2=k)
 (CK:Hid (∀W:zA,qJ 178 #[.string t] W (.int .i64 0)))
 (RD:Hid (∀W:zA,zC zF 116 #[.string t] W λe w'=>∃v,e=.returned (.agg #[.bool false,v])/\Sl w' v ((zaa B9 n).map I)/\zB W.heap.size W w'))
 (RP:Hid (∀W:zA,qJ 125 #[.string ⟨#[48]⟩,.int .i64 (k:Int)] W (.string z)))
 (RX:Hid (∀W:zA,zC zF 116 #[.string y] W λe w'=>∃v,e=.returned (.agg #[.bool false,v])/\Sl w' v ((zaa B9 X).map I)/\zB W.heap.size W w'))
 (hzs:z.size<=1000) (hy:(⟨#[49]⟩:ByteArray)++z=y) (hr:digs (s:Int)<=300) (w:zA) (HW:Hid (Wd w)):
 qJ 126 #[.string t] w (.tuple #[St (zD s),.int .i64 0]):=by
 have hfd:=znj;have q1:IntKind.i64.wrap ((t.size:Int)+1)=(t.size:Int)+1:=zI _ ⟨by omega,by omega⟩;have HKI:=hid (show((t.size:Int)+1)/2=(k:Int) by omega);have HK:=hid hk;have HY:=hid hy;clear hk hy;go_enter Tryz.func126,Tryz.ntmps126;go_wp21;refine zzM (CK.out w) λw1 hb1=>?_;have HB1:=hid hb1;clear hb1 CK;go_wp21;refine(RD.out w1).mono ?_;rintro e w2 ⟨vn,rfl,hvn,hb2⟩;obtain⟨pn,kn,cn,rfl, -⟩:=zbx hvn;have HB2:=qT HB1 hb2;clear hb2 HB1 RD;have HVN:=hid hvn;clear hvn;go_wp21;simp only[HKI.out];refine zzM (RP.out w2) λw3 hb3=>?_;have HB3:=qT HB2 hb3;have HVN3:=hid (HVN.out.below hb3);clear hb3 HB2 HVN RP;go_wp21
 try rw[HY.out]
 refine(RX.out w3).mono ?_;rintro e w4 ⟨vx,rfl,hvx,hb4⟩;obtain⟨px,kx,cx,rfl, -⟩:=zbx hvx;have HB4:=qT HB3 hb4;have HVN4:=hid (HVN3.out.below hb4);clear hb4 HB3 HVN3 RX;have HVX:=hid hvx;clear hvx;clear q1 h45 h48 hsz hsz2;have HT2:=hid (λW=>z6c W);go_wp21;go_loopg [6] X (λk0 vx wr=>∃(x:Nat) (p:Option Addr) (a c:Nat),Hid (k0=x)/\1<=x/\s<=x/\Hid (x<=X)/\vx=.slice p a c/\Hid (Sl wr (.slice p a c) ((zaa B9 x).map I))/\Hid (Sl wr (.slice pn kn cn) ((zaa B9 n).map I))/\Hid (qL w wr))
 case atStart=>exact⟨X,px,kx,cx,hid rfl,hX,hsX,hid (zN _),rfl,HVX,HVN4,HB4⟩
 case round=>
  clear hX hsX;obtain⟨x,p,a,c,hk0,hx,hsx,hxX,rfl,hvx,hvn,hB⟩:=hrel;obtain⟨l1,l2,l3⟩:=HL.out;have m1:(zaa B9 x).length<=400:=zO (zd6 (by decide) hxX.out) l2;have hq:n/x<=n:=Nat.div_le_self _ _;have m2:(zaa B9 (n/x)).length<=400:=zO (zd6 (by decide) hq) l1;have m3:(zaa B9 (x+n/x)).length<=400:=zO (zd6 (by decide) (by have:=hxX.out;omega)) l3;have m4:(zaa B9 ((x+n/x)/2)).length<=400:=zO (zd6 (by decide) (Nat.div_le_self _ _)) m3;have m5:(zaa B9 2).length<=400:=by have:=congrArg List.length z4b;simp at this;omega
  have g1:=ztp (by omega) HS.out.1 hsx;have g2:=zrf (n:=n) (x:=x) (by omega);have g3:x<=(x+n/x)/2->x=s:=λh=>by
   have h1:=g2 h;by_cases c:x<=s
   ·omega
   ·have:=Nat.mul_le_mul (show s+1<=x by omega) (show s+1<=x by omega)
    have:=HS.out.2;omega
  have hs1:1<=s\/(x+n/x)/2≥0:=.inr (zR _);have HDV:=hid (znf _ _ n x wr hvn.out hvx.out (by omega) (by omega) (by omega));have G:=hid (⟨g1,g3⟩:_/\_);have M:=hid (⟨m1,m2,m3,m4,m5⟩:_/\_/\_/\_/\_);clear l1 l2 l3 m1 m2 m3 m4 m5 hq g1 g2 g3 hs1;go_wp21;refine HDV.out.mono ?_;rintro e w5 ⟨v1,v2,rfl,hs1,hs2,hb5⟩;obtain⟨p1,k1,c1,rfl, -⟩:=zbx hs1;have HB5:=hid (hB.out.trans (hb5.mono hB.out.size));have HVX5:=hid (hvx.out.below hb5);have HVN5:=hid (hvn.out.below hb5);have HPL:=hid (z09 _ _ x (n/x) w5 HVX5.out hs1 (by have:=M.out.1;omega) (by have:=M.out.2.1;omega));clear hs1 hs2 hb5 hB hvx hvn HDV;go_wp21;refine HPL.out.mono ?_;rintro e w6 ⟨p2,k2,c2,rfl,hs2,hb6⟩;have HB6:=qT HB5 hb6;have hal:qL w6 (w6.alloc (.cells #[I 2] 3)):=(zM _ w6).alloc (zN _) _;have HVX6:=hid ((HVX5.out.below hb6).below hal);have HVN6:=hid ((HVN5.out.below hb6).below hal);have HD2:=hid (znf _ _ (x+n/x) 2 (w6.alloc (.cells #[I 2] 3)) (hs2.below hal) (z6c w6) (by have:=M.out.2.2.1;omega) (by have:=M.out.2.2.2.2;omega) (by omega));have HB6':=qT HB6 hal;clear hs2 hb6 hal HB5 HVX5 HVN5 HPL;go_wp21;refine HD2.out.mono ?_;rintro e w7 ⟨v3,v4,rfl,hs3,hs4,hb7⟩;obtain⟨p3,k3,c3,rfl, -⟩:=zbx hs3;have HB7:=hid (HB6'.out.trans (hb7.mono HB6'.out.size));have HVX7:=hid (HVX6.out.below hb7);have HVN7:=hid (HVN6.out.below hb7);have HS3:=hid hs3;have HCM:=hid (zi9 _ _ ((x+n/x)/2) x w7 hs3 HVX7.out (by have:=M.out.2.2.2.1;omega) (by have:=M.out.1;omega));clear hs3 hs4 hb7 HB6 HB6' HVX6 HVN6 HD2;generalize (x+n/x)/2=y at*
  go_wp21;refine HCM.out.mono ?_;rintro e w8 ⟨cc,rfl,⟨hc1,hc2⟩,hb8⟩;have HB8:=qT HB7 hb8;have HVX8:=hid (HVX7.out.below hb8);have HVN8:=hid (HVN7.out.below hb8);have HS8:=hid (HS3.out.below hb8);clear hb8 HB7 HVX7 HVN7 HS3 HCM;by_cases hge:x<=y
  ·have hcI:(0:Int)<=cc:=by omega
   have hxs:=G.out.2 hge;have hres:=zez false _ x w8 (HW.out.below HB8.out) HVX8.out (by have:=M.out.1;omega);rw[zkw,hxs,zcf hr,zcg hr,Str.zad] at hres;have HRES:=hid hres;clear hge G hc1 hc2 hres hxs;go_wp21;refine zzM HRES.out λw9 hb9=>?_;have HB9':=qT HB8 hb9;clear hb9 HRES;go_wp21;go_ret2;exact⟨rfl,HB9'.out⟩
  ·have hcI:¬(0:Int)<=cc:=by omega
   have hsy:=G.out.1;have hy1:1<=y:=by
    by_cases c0:s=0
    ·have h1:=HS.out.2
     rw[c0] at h1;omega
    ·omega
   have hyX:y<=X:=by have:=hxX.out;omega
   have HYX:=hid (show y<x by omega);clear hge G hc1 hc2;go_wp21;go_roundg y
   case measure=>rw[hk0.out];exact HYX.out
   case rel=>exact⟨y,p3,k3,c3,hid rfl,hy1,hsy,hid hyX,rfl,HS8,HVN8,HB8⟩
theorem z6p (t:ByteArray) (n s:Nat) (ht0:0<t.size) (h45:(((t[0]'ht0).toNat:Int)==45)=false) (h48:(t.toList==[48])=false) (hsz:(t.size:Int)<=18)
 (CK:Hid (∀W:zA,qJ 178 #[.string t] W (.int .i64 0)))
 (RD:Hid (∀W:zA,zC zF 116 #[.string t] W λe w'=>∃v,e=.returned (.agg #[.bool false,v])/\Sl w' v ((zaa B9 n).map I)/\zB W.heap.size W w'))
 (SR:Hid (qK 192 #[.string t] (.tuple #[St (zD s),.int .i64 0]))) (w:zA) (HW:Hid (Wd w)):
 qJ 126 #[.string t] w (.tuple #[St (zD s),.int .i64 0]):=by
 have hfd:=znj;go_enter Tryz.func126,Tryz.ntmps126;go_wp21;refine zzM (CK.out w) λw1 hb1=>?_;have HB1:=hid hb1;clear hb1 CK;go_wp21;refine(RD.out w1).mono ?_;rintro e w2 ⟨vn,rfl,hvn,hb2⟩;obtain⟨pn,kn,cn,rfl, -⟩:=zbx hvn;have HB2:=qT HB1 hb2;clear hb2 HB1 RD hvn;go_wp21;refine zzM (SR.out w2 (HW.out.below HB2.out)) λw3 hb3=>?_;have HB3:=qT HB2 hb3;clear hb3;go_wp21;go_ret2;exact⟨rfl,HB3.out⟩
theorem z7g (t:ByteArray) (ht0:0<t.size) (h45:(((t[0]'ht0).toNat:Int)==45)=false) (h48:(t.toList==[48])=true)
 (CK:Hid (∀W:zA,qJ 178 #[.string t] W (.int .i64 0))) (w:zA):
 qJ 126 #[.string t] w (.tuple #[.string t,.int .i64 0]):=by
 go_enter Tryz.func126,Tryz.ntmps126;go_wp21;refine zzM (CK.out w) λw1 hb1=>?_;have HB1:=hid hb1;clear hb1 CK;go_wp21;go_ret2;exact⟨rfl,HB1.out⟩
theorem z13:∀k:Nat,zD (10^k)=49::List.replicate k 48
 |0=>by show zD 1=[49];rw[zae (by omega)];rfl
 |k+1=>by
  have:=zi4 (n:=10^k) (d:=0) (yS (by simp)) (by omega);rw[Nat.add_zero,yP,<-yO,z13 k] at this;rw[this,List.replicate_succ'];rfl
theorem z7h (a b:List UInt8):((⟨a.toArray⟩:ByteArray)++(⟨b.toArray⟩:ByteArray))=⟨(a++b).toArray⟩:=by
 apply ByteArray.ext;rw[ByteArray.data_append];simp
theorem zvx (n s:Nat) (hs:s*s<=n/\n<(s+1)*(s+1)) (hl:(zD n).length<=200) (w:zA) (hw:Wd w):
 qJ 126 #[St (zD n)] w (.tuple #[St (zD s),.int .i64 0]):=by
 obtain⟨t,ht⟩:=zzX (⟨(zD n).toArray⟩:ByteArray);obtain⟨s1,s2,s3,s4⟩:=zco _ (zci n) t ht;obtain⟨c,r,hd,hc1,hc2⟩:=dec_head n;have h45:(((t[0]'s2).toNat:Int)==45)=false:=by
  rw[beq_eq_false_iff_ne,s4 s2];simp only[hd,List.head_cons];omega
 have ck:∀W:zA,qJ 178 #[.string t] W (.int .i64 0):=λW=>by
  have:=zl4 (n:Int) (by unfold digs;rw[Int.natAbs_natCast];omega) W;rw[Str.zad] at this;rw[ht];exact this
 have rd:∀W:zA,zC zF 116 #[.string t] W λe w'=>∃v,e=.returned (.agg #[.bool false,v])/\Sl w' v ((zaa B9 n).map I)/\zB W.heap.size W w':=λW=>by
  have:=zc3 (n:Int) W (by unfold digs;rw[Int.natAbs_natCast];omega);rw[Str.zad,decide_eq_false (by omega),Int.natAbs_natCast] at this;rw[ht];exact this
 show zC _ _ #[.string ⟨(zD n).toArray⟩] _ _;rw[<-ht];by_cases h0:n=0
 ·have hs0:s=0:=by
   by_cases d:s=0
   ·exact d
   ·have:=Nat.mul_pos (show 0<s by omega) (show 0<s by omega);omega
  have h48:(t.toList==[48])=true:=by rw[ht,ByteArray.toList_eq,h0,zae (by omega)];rfl
  have:=z7g t s2 h45 h48 (hid ck) w;rw[hs0];rw[show St (zD 0)=.string t by rw[ht,h0]];exact this
 ·have h48:(t.toList==[48])=false:=zhl ht 0 (by omega) h0
  by_cases hsm:(zD n).length<=18
  ·have hn18:n<1000000000000000000:=(zaf n 18 (by omega)).1 hsm
   refine z6p t n s s2 h45 h48 (by omega) (hid ck) (hid rd) (hid λW hW=>?_) w (hid hw);refine zd3 t n s (by omega) (hid hn18) (hid hs) (hid λW=>?_) (hid λW hW=>?_) W (hid hW)
   ·have:=znc (n:Int) (by rw[Str.zad];exact hsm) W
    rw[Str.zad] at this;rw[ht];exact this
   ·have hsn:s<=n:=zO (Nat.le_mul_self s) hs.1
    have:=zb3 (s:Int) (by omega) (by omega) W hW;rw[Str.zad] at this;exact this
  ·obtain⟨k,hk⟩:∃k,(t.size+1)/2=k:=⟨_,rfl⟩
   have hn2:n<10^(2*k):=(zaf n (2*k) (by omega)).1 (by omega);have hk2:k<=101:=by omega
   have hX:=z7e hs.1 hn2;have hrep:=λW=>Tryz.strings_Repeat ⟨#[48]⟩ k W (by omega) (by show 1*k<=_;omega);have b9:∀m,m<10^250->(zaa B9 m).length<=400:=λm hm=>zO (zfv (k:=28) (by decide) (Nat.lt_of_lt_of_le hm (by decide+kernel))) (by omega);have n200:n<10^200:=(zaf n 200 (by omega)).1 hl;have x101:10^k<=10^101:=yF (by omega) hk2;have p1:(10:Nat)^200+10^101<=10^250:=by decide+kernel
   have y1:(⟨#[49]⟩:ByteArray)++⟨(Lib.repeatL [48] k).toArray⟩=⟨(zD (10^k)).toArray⟩:=by
    rw[z13,zhy];exact z7h [49] (List.replicate k 48)
   refine z7f t ⟨(Lib.repeatL [48] k).toArray⟩ ⟨(zD (10^k)).toArray⟩ n s k (10^k) (hid hs) (by omega) (yS (by simp)) hX (hid ⟨b9 _ (by omega),b9 _ (by omega),b9 _ (by omega)⟩) s2 h45 h48 (by omega) (by omega) hk (hid ck) (hid rd) (hid hrep) (hid λW=>?_) ?_ y1 ?_ w (hid hw)
   ·have hx2:10^k<10^102:=Nat.pow_lt_pow_right (by omega) (by omega)
    have:=zc3 ((10^k:Nat):Int) W (by unfold digs;rw[Int.natAbs_natCast];exact zO ((zaf _ 102 (by omega)).2 hx2) (by omega));rw[Str.zad,decide_eq_false (by omega),Int.natAbs_natCast] at this;exact this
   ·show(Lib.repeatL [48] k).toArray.size<=1000
    rw[zhy];simp;omega
   ·unfold digs
    rw[Int.natAbs_natCast];exact zO ((zaf _ 102 (by omega)).2 (Nat.lt_of_le_of_lt (zO hX x101) (Nat.pow_lt_pow_right (by omega) (by omega)))) (by omega)
theorem z6d (x y:Int) (hx:digs x<=300) (hy:digs y<=300) (hxy:digs (x*y)<=300) (w:zA) (hw:Wd w):
 qJ 163 #[St (itoa x),St (itoa y)] w (St (itoa (x*y))):=by
 have hc:=zhk x y hx hy w hw;rw[zcf hxy,zcg hxy] at hc;generalize itoa (x*y)=z at*
 have HC:=hid hc;clear hc;go_enter Tryz.func163,Tryz.ntmps163;go_wp21;refine zzM HC.out λw1 hb=>?_;go_wp21;go_ret;exact⟨rfl,hb⟩
theorem z7j (n:Nat) (hl:17<(zD n).length) (w:zA):
 qJ 161 #[St (zD n)] w (.tuple #[.int .i64 0,.bool false]):=by
 obtain⟨t,ht⟩:=zzX (⟨(zD n).toArray⟩:ByteArray);have h17:(17:Int)<(t.size:Int):=by rw[ht];show(17:Int)<((zD n).toArray.size:Int);simp;omega
 show zC _ _ #[.string ⟨(zD n).toArray⟩] _ _;rw[<-ht];clear ht hl;go_enter Tryz.func161,Tryz.ntmps161;go_wp21;go_ret2;exact⟨rfl,zM _ _⟩
theorem z5v (t r:ByteArray) (n s m:Nat) (b:Bool) (hm:IntKind.i64.wrap ((s:Int)*(s:Int))=(m:Int)) (hb:((m:Int)==(n:Int))=b)
 (NT:Hid (qK 161 #[.string t] (.tuple #[.int .i64 (n:Int),.bool true])))
 (NR:Hid (∀W:zA,zC zF 230 #[.int .i64 (n:Int)] W λe w'=>e=.returned (.int .i64 (s:Int))/\w'=W))
 (IT:Hid (qK 33 #[.int .i64 (s:Int)] (.string r))) (w:zA) (HW:Hid (Wd w)):
 qJ 165 #[.string t] w (.tuple #[.string r,.bool b]):=by
 go_enter Tryz.func165,Tryz.ntmps165;go_wp21;refine zzM (NT.out w HW.out) λw1 hb1=>?_;have HB1:=hid hb1;clear hb1 NT;go_wp21;refine zzM (NR.out w1) λw2 hw2=>?_;obtain rfl:=hw2.symm;clear hw2;go_wp21;refine zzM (IT.out w1 (HW.out.below HB1.out)) λw3 hb3=>?_;have HB3:=qT HB1 hb3;clear hb3;go_wp21;go_ret2;exact⟨rfl,HB3.out⟩
theorem z7k (t r q:ByteArray) (b:Bool) (hb:(q.toList==t.toList)=b)
 (NT:Hid (∀W:zA,qJ 161 #[.string t] W (.tuple #[.int .i64 0,.bool false])))
 (NR:Hid (qK 126 #[.string t] (.tuple #[.string r,.int .i64 0])))
 (MU:Hid (qK 163 #[.string r,.string r] (.string q))) (w:zA) (HW:Hid (Wd w)):
 qJ 165 #[.string t] w (.tuple #[.string r,.bool b]):=by
 go_enter Tryz.func165,Tryz.ntmps165;go_wp21;refine zzM (NT.out w) λw1 hb1=>?_;have HB1:=hid hb1;clear hb1 NT;go_wp21;refine zzM (NR.out w1 (HW.out.below HB1.out)) λw2 hb2=>?_;have HB2:=qT HB1 hb2;clear hb2 HB1 NR;go_wp21;refine zzM (MU.out w2 (HW.out.below HB2.out)) λw3 hb3=>?_;have HB3:=qT HB2 hb3;clear hb3;go_wp21;go_ret2;exact⟨rfl,HB3.out⟩
theorem z6f {n s:Nat} (h:s*s<=n):s<=n:=zO (Nat.le_mul_self s) h
theorem zt9 {m n:Nat} (h:m<=n):(zD m).length<=(zD n).length:=by
 have:=(zaf n (zD n).length (List.length_pos_iff.2 (zci n))).1 (zN _);exact(zaf m _ (List.length_pos_iff.2 (zci n))).2 (Nat.lt_of_le_of_lt h this)
theorem z4y (n s:Nat) (hs:s*s<=n/\n<(s+1)*(s+1)) (hl:(zD n).length<=190) (w:zA) (hw:Wd w):
 qJ 165 #[St (zD n)] w (.tuple #[St (zD s),.bool (decide (s*s=n))]):=by
 have hsn:=z6f hs.1;by_cases h17:(zD n).length<=17
 ·have hn17:n<100000000000000000:=(zaf n 17 (by omega)).1 h17
  have hss:=hs.1;refine z5v _ _ n s (s*s) _ (by rw[<-Int.natCast_mul];exact zI _ (by omega)) ?_ (hid λW hW=>zk7 n h17 W hW) (hid λW=>ztm n s (by omega) hs W) (hid λW hW=>?_) w (hid hw)
  ·rw[Bool.eq_iff_iff,beq_iff_eq,decide_eq_true_iff];omega
  ·have:=zb3 (s:Int) (by omega) (by omega) W hW
   rw[Str.zad] at this;exact this
 ·have l1:digs (s:Int)<=190:=by rw[zd9];exact zO (zt9 hsn) hl
  have l2:digs ((s:Int)*(s:Int))<=190:=by rw[<-Int.natCast_mul,zd9];exact zO (zt9 hs.1) hl
  refine z7k _ ⟨(zD s).toArray⟩ ⟨(zD (s*s)).toArray⟩ _ ?_ (hid λW=>z7j n (by omega) W) (hid λW hW=>zvx n s hs (by omega) W hW) (hid λW hW=>?_) w (hid hw)
  ·rw[ByteArray.toList_eq,ByteArray.toList_eq,Bool.eq_iff_iff,beq_iff_eq,decide_eq_true_iff]
   exact⟨λh=>zfk (by simpa using h),λh=>by rw[h]⟩
  ·have:=z6d (s:Int) (s:Int) (by omega) (by omega) (by omega) W hW
   rw[<-Int.natCast_mul,Str.zad,Str.zad] at this;exact this
theorem zhe (n:Nat):numS (n:Rat)=zD n:=by
 have:=zha (n:Int);rw[Str.zad] at this;rw[<-this];rfl
theorem zrg {n k:Nat} (hk:0<k) (h:(zD n).length<=k):sz (n:Rat) k:=by
 have h1:=(zaf n k hk).1 h;have:10^1<=10^k:=yF (by omega) hk;exact⟨by show((n:Int)).natAbs<_;rw[Int.natAbs_natCast];exact h1,by show 1<_;omega⟩
theorem z5x (n d:Nat) (hd:0<d) (h1:(zD n).length<=140) (h2:(zD d).length<=140) (w:zA) (hw:Wd w):
 qJ 166 #[St (zD n),St (zD d)] w (St (numS ((n:Rat)/(d:Rat)))):=by
 have hc:=zoj (n:Rat) (d:Rat) (by
  intro h;have:d=0:=by exact_mod_cast h
  omega) 140 140 (by omega) (by omega) (by omega) (zrg (by omega) h1) (zrg (by omega) h2) w hw
 rw[zhe,zhe] at hc;generalize numS ((n:Rat)/(d:Rat))=z at*
 have HC:=hid hc;clear hc;go_enter Tryz.func166,Tryz.ntmps166;go_wp21;refine zzM HC.out λw1 hb=>?_;go_wp21;go_ret;exact⟨rfl,hb⟩
theorem z4z (u v r1 r2 f:ByteArray) (b1 b2:Bool)
 (E1:Hid (qK 165 #[.string u] (.tuple #[.string r1,.bool b1])))
 (E2:Hid (qK 165 #[.string v] (.tuple #[.string r2,.bool b2])))
 (FR:Hid (b1=true->b2=true->qK 166 #[.string r1,.string r2] (.string f))) (w:zA) (HW:Hid (Wd w)):
 qJ 236 #[.agg #[.string u,.string v]] w (.tuple #[.string (if(b1&&b2)=true then f else⟨#[]⟩),.bool (b1&&b2)]):=by
 obtain⟨W1,hW1⟩:=zzX (w.alloc (.cells #[.string u,.string v] 195));have hb1:qL w W1:=by rw[hW1];exact(zM _ w).alloc (zN _) _
 have A:W1.heap[w.heap.size]? =some (.cells #[.string u,.string v] 195 (0,0)):=by rw[hW1];exact zG w _
 have a0:W1.cell? ⟨w.heap.size,0,none⟩=some (.string u):=by rw[zJ A];rfl
 have a1:W1.cell? ⟨w.heap.size,1,none⟩=some (.string v):=by rw[zJ A];rfl
 have HA:=hid (⟨a0,a1⟩:W1.cell? ⟨w.heap.size,0,none⟩=some (.string u)/\W1.cell? ⟨w.heap.size,1,none⟩=some (.string v));have HB:=hid hb1;rw[hW1] at a0 a1;have HW1:=hid hW1;clear hW1 hb1 A;go_enter Tryz.func236,Tryz.ntmps236;go_wp21;rw[<-HW1.out];refine zzM (E1.out W1 (HW.out.below HB.out)) λw2 hb2=>?_;have HB2:=qT HB hb2;have g0:=(zac hb2).cell HA.out.1;have g1:=(zac hb2).cell HA.out.2;clear hb2 a0 a1;go_wp21;refine zzM (E2.out w2 (HW.out.below HB2.out)) λw3 hb3=>?_;have HB3:=qT HB2 hb3;clear hb3 g0 g1;cases b1
 ·go_wp21
  all_goals first|exact(zzU ‹_›).elim|skip
  go_ret2;exact⟨rfl,HB3.out⟩
 ·cases b2
  ·go_wp21
   all_goals first|exact(zzU ‹_›).elim|skip
   go_ret2;exact⟨rfl,HB3.out⟩
  ·have HF:=hid (FR.out rfl rfl w3 (HW.out.below HB3.out))
   go_wp21
   all_goals first|exact(zzU ‹_›).elim|skip
   refine zzM HF.out λw4 hb4=>?_;have HB4:=qT HB3 hb4;clear hb4;go_wp21;go_ret2;exact⟨rfl,HB4.out⟩
theorem z6q (n d sn sd:Nat) (hd:0<d) (hn:sn*sn<=n/\n<(sn+1)*(sn+1)) (hd2:sd*sd<=d/\d<(sd+1)*(sd+1)) (h1:(zD n).length<=190) (h2:(zD d).length<=190) (w:zA) (hw:Wd w):
 qJ 236 #[.agg #[St (zD n),St (zD d)]] w (.tuple #[.string (if(decide (sn*sn=n)&&decide (sd*sd=d))=true then⟨(numS ((sn:Rat)/(sd:Rat))).toArray⟩ else⟨#[]⟩),.bool (decide (sn*sn=n)&&decide (sd*sd=d))]):=by
 refine z4z _ _ ⟨(zD sn).toArray⟩ ⟨(zD sd).toArray⟩ _ _ _ (hid λW hW=>z4y n sn hn h1 W hW) (hid λW hW=>z4y d sd hd2 h2 W hW) (hid λ_ hb W hW=>?_) w (hid hw);have hsd:0<sd:=by
  by_cases c:sd=0
  ·have:=hd2.2;rw[c] at this;omega
  ·omega
 have half:∀s m:Nat,s*s<=m->(zD m).length<=190->(zD s).length<=140:=λs m h hm=>by
  have k1:m<10^190:=(zaf m 190 (by omega)).1 hm;refine(zaf s 140 (by omega)).2 ?_;by_cases c:s<10^140
  ·exact c
  ·exfalso
   have:=Nat.mul_le_mul (show 10^140<=s by omega) (show 10^140<=s by omega);have e:(10:Nat)^190<=10^140*10^140:=by decide+kernel
   omega
 exact z5x sn sd hsd (half _ _ hn.1 h1) (half _ _ hd2.1 h2) W hW
theorem z40 (W:zA) (t:TypeId) (p q:Rat):
 RowNums (some ⟨W.heap.size,0,none⟩) 2 (λi=>if i=0 then p else q) ((W.alloc (.cells #[St (numS p),St (numS q)] t)).alloc (.cells #[St (numS p),St (numS q)] t))/\
 RowNums (some ⟨W.heap.size+1,0,none⟩) 2 (λi=>if i=0 then p else q) ((W.alloc (.cells #[St (numS p),St (numS q)] t)).alloc (.cells #[St (numS p),St (numS q)] t)):=by
 have A1:=(Below.heap_alloc (W.alloc (.cells #[St (numS p),St (numS q)] t)) (.cells #[St (numS p),St (numS q)] t) W.heap.size (by simp)).trans (zG W (.cells #[St (numS p),St (numS q)] t (0,0)));have A2:=zG (W.alloc (.cells #[St (numS p),St (numS q)] t)) (.cells #[St (numS p),St (numS q)] t (0,0));rw[World.size_alloc] at A2;constructor
 ·intro i hi
  refine⟨_,_,rfl,?_⟩;rw[zJ A1]
  match i,hi with
  |0,_|1,_=>rfl
 ·intro i hi
  refine⟨_,_,rfl,?_⟩;rw[zJ A2]
  match i,hi with
  |0,_|1,_=>rfl
theorem z6r (x y a u v r:ByteArray) (is:Bool) (hy:(y.toList==[48])=false)
 (CK:Hid (∀W:zA,Wd W->zC zF 159 #[.slice (some ⟨W.heap.size,0,none⟩) 2 2,.slice (some ⟨W.heap.size+1,0,none⟩) 2 2] ((W.alloc (.cells #[.string x,.string y] 23)).alloc (.cells #[.string x,.string y] 23)) λe w'=>e=.returned (.int .i64 0)/\zB W.heap.size W w'))
 (DV:Hid (qK 233 #[.string x,.string y] (.tuple #[.string a,.int .i64 0])))
 (OF:Hid (qK 160 #[.string a] (.agg #[.string u,.string v])))
 (RT:Hid (qK 236 #[.agg #[.string u,.string v]] (.tuple #[.string r,.bool is]))) (w:zA) (HW:Hid (Wd w)):
 qJ 170 #[.string x,.string y] w (.tuple #[.string r,.bool is,.int .i64 0]):=by
 have HC:=hid (CK.out w HW.out);clear CK;go_enter Tryz.func170,Tryz.ntmps170;go_wp21;refine zzM HC.out λw2 hb2=>?_;have HB2:=hid hb2;clear hb2 HC;go_wp21;refine zzM (DV.out w2 (HW.out.below HB2.out)) λw3 hb3=>?_;have HB3:=qT HB2 hb3;clear hb3 HB2 DV;go_wp21;refine zzM (OF.out w3 (HW.out.below HB3.out)) λw4 hb4=>?_;have HB4:=qT HB3 hb4;clear hb4 HB3 OF;go_wp21;refine zzM (RT.out w4 (HW.out.below HB4.out)) λw5 hb5=>?_;have HB5:=qT HB4 hb5;clear hb5 HB4 RT;go_wp21;go_ret3;exact⟨rfl,HB5.out⟩
theorem zvz (p q:Rat) (hp:0<=p) (hq:0<q) (sp:sz p 90) (sq:sz q 90) (sn sd:Nat) (hn:sn*sn<=(p/q).num.natAbs/\(p/q).num.natAbs<(sn+1)*(sn+1)) (hd:sd*sd<=(p/q).den/\(p/q).den<(sd+1)*(sd+1)) (w:zA) (hw:Wd w):
 qJ 170 #[St (numS p),St (numS q)] w (.tuple #[.string (if(decide (sn*sn=(p/q).num.natAbs)&&decide (sd*sd=(p/q).den))=true then⟨(numS ((sn:Rat)/(sd:Rat))).toArray⟩ else⟨#[]⟩),.bool (decide (sn*sn=(p/q).num.natAbs)&&decide (sd*sd=(p/q).den)),.int .i64 0]):=by
 have hq0:q≠0:=by grind
 have hpn:0<=p.num:=Rat.num_nonneg.2 hp;have hqn:0<=q.num:=Rat.num_nonneg.2 (Rat.le_of_lt hq);have h0:0<=p/q:=by rw[Rat.div_def];exact Rat.mul_nonneg hp (Rat.le_of_lt (Rat.inv_pos.2 hq))
 have han:0<=(p/q).num:=Rat.num_nonneg.2 h0;have okp:=zd0 (by omega) (by omega) sp;have okq:=zd0 (by omega) (by omega) sq;have sa:sz (p/q) 180:=z8t hq0 sp sq;have oka:=zd0 (by omega) (by omega) sa;have da:=zok (k:=180) (by omega) sa;have dp:=zok (k:=90) (by omega) sp;have dq:=zok (k:=90) (by omega) sq;refine z6r ⟨(numS p).toArray⟩ ⟨(numS q).toArray⟩ ⟨(numS (p/q)).toArray⟩ ⟨(itoa (p/q).num).toArray⟩ ⟨(zD (p/q).den).toArray⟩ _ _ ?_ (hid λW hW=>?_) (hid λW hW=>zoj p q hq0 90 90 (by omega) (by omega) (by omega) sp sq W hW) (hid λW hW=>zio (p/q) oka W hW) (hid λW hW=>?_) w (hid hw)
 ·rw[ByteArray.toList_eq,beq_eq_false_iff_ne]
  exact λh=>hq0 ((zpy q).1 (by simpa using h))
 ·obtain⟨t1,t2⟩:=z40 W 23 p q
  have hal:qL W ((W.alloc (.cells #[St (numS p),St (numS q)] 23)).alloc (.cells #[St (numS p),St (numS q)] 23)):=((zM _ W).alloc (zN _) _).alloc (by simp) _;refine(zji _ _ 2 2 2 2 _ _ (by omega) (by omega) (hid λi _ W hW=>?_) (hid λi _ W hW=>?_) (hid λi _=>?_) (hid λi _ W=>?_) _ (hid (hW.below hal)) (hid t1) (hid t2)).mono ?_
  ·show zC _ _ #[St (numS (if i=0 then p else q))] _ _
   split
   ·exact zfj p okp W hW
   ·exact zfj q okq W hW
  ·by_cases c:i=0
   ·simp only[c,if_true];exact zio p okp W hW
   ·simp only[c,if_false];exact zio q okq W hW
  ·by_cases c:i=0
   ·simp only[c,if_true];exact dp
   ·simp only[c,if_false];exact dq
  ·by_cases c:i=0
   ·simp only[c,if_true];exact zma p hpn W
   ·simp only[c,if_false];exact zma q hqn W
  ·rintro e w' ⟨rfl,hb⟩
   exact⟨rfl,hal.trans (hb.mono hal.size)⟩
 ·have hi:itoa (p/q).num=zD (p/q).num.natAbs:=by
   have:=Str.zad (p/q).num.natAbs;rw[Int.natAbs_of_nonneg han] at this;exact this
  rw[hi];exact z6q (p/q).num.natAbs (p/q).den sn sd (p/q).den_pos hn hd (by have:=da.1;unfold digs at this;omega) (by have:=da.2;omega) W hW
theorem z77 (n d:Int) (s t r:List UInt8) (h0:(d==0)=false) (h1:(d==1)=false)
 (C1:Hid (qK 33 #[.int .i64 n] (St s)))
 (C2:Hid (qK 33 #[.int .i64 d] (St t)))
 (C3:Hid (qK 34 #[St s,St t] (.tuple #[St r,.int .i64 0])))
 (w:zA) (HW:Hid (Wd w)):
 qJ 13 #[.int .i64 n,.int .i64 d] w (.tuple #[St r,.int .i64 0]):=by
 go_enter Tryz.func13,Tryz.ntmps13;go_wp21;refine zzM (C1.out _ HW.out) λw1 hb1=>?_;have HB1:=hid hb1;clear hb1;go_wp21;refine zzM (C2.out _ (HW.out.below HB1.out)) λw2 hb2=>?_;have HB2:=qT HB1 hb2;clear hb2;go_wp21;refine zzM (C3.out _ (HW.out.below HB2.out)) λw3 hb3=>?_;have HB3:=qT HB2 hb3;clear hb3;go_wp21;go_ret2;exact⟨rfl,HB3.out⟩
theorem z7l (n d:Nat) (hd:0<d) (h1:n<1000000000000000000) (h2:d<1000000000000000000) (w:zA) (hw:Wd w):
 qJ 13 #[.int .i64 (n:Int),.int .i64 (d:Int)] w (.tuple #[St (numS ((n:Rat)/(d:Rat))),.int .i64 0]):=by
 have dg:∀k:Nat,k<1000000000000000000->digs (k:Int)<=300:=λk hk=>zO (zhd (k:=18) (by omega) (by rw[Int.natAbs_natCast];omega)) (by omega);have e:(n:Rat)/(d:Rat)=Rat.divInt (n:Int) (d:Int):=by rw[Rat.divInt_eq_div];rfl
 by_cases h:d=1
 ·subst h
  have hc:=zb3 (n:Int) (by omega) (by omega) w hw;have e1:numS ((n:Rat)/((1:Nat):Rat))=itoa (n:Int):=by
   rw[show(n:Rat)/((1:Nat):Rat)=(n:Rat) by grind,zhe,Str.zad]
  rw[e1];generalize itoa (n:Int)=z at*
  have HC:=hid hc;clear hc dg e e1;show zC _ _ #[.int .i64 (n:Int),.int .i64 1] _ _;clear h1 h2 hd;go_enter Tryz.func13,Tryz.ntmps13;go_wp21;refine zzM HC.out λw1 hb=>?_;go_wp21;go_ret2;exact⟨rfl,hb⟩
 ·rw[e]
  exact z77 _ _ (itoa n) (itoa (d:Int)) _ (by rw[beq_eq_false_iff_ne];omega) (by rw[beq_eq_false_iff_ne];omega) (hid λW hW=>zb3 _ (by omega) (by omega) W hW) (hid λW hW=>zb3 _ (by omega) (by omega) W hW)
   (hid λW hW=>zfa _ _ (by omega) (dg _ h1) (dg _ h2) W hW) w (hid hw)
def zrn (n:Nat):Nat->Nat
 |0=>0
 |k+1=>if(k+1)*(k+1)<=n then k+1 else zrn n k
def isq (n:Nat):Nat:=zrn n n
theorem zyh (n:Nat):∀k,n<(k+1)*(k+1)->zrn n k*zrn n k<=n/\n<(zrn n k+1)*(zrn n k+1)
 |0,h=>⟨zR _,h⟩
 |k+1,h=>by
  unfold zrn;split
  ·exact⟨‹_›,h⟩
  ·exact zyh n k (by omega)
theorem zv0 (n:Nat):isq n*isq n<=n/\n<(isq n+1)*(isq n+1):=zyh n n (by
 have:=Nat.le_mul_self (n+1);omega)
def zlu (p:Nat):Nat->Nat×Nat->Nat×Nat
 |0,x=>x
 |f+1,x=>if p*p∣x.2 then zlu p f (x.1*p,x.2/(p*p)) else x
def zkk (p:Nat) (x:Nat×Nat):Nat×Nat:=zlu p x.2 x
theorem zyi {p:Nat} (hp:2<=p):∀(f:Nat) (x:Nat×Nat),0<x.2->x.2<=f->zlu p (f+1) x=zlu p f x
 |0,x,h,k=>by omega
 |f+1,x,h,k=>by
  have hpp:4<=p*p:=Nat.mul_le_mul hp hp;rw[zlu]
  conv=>rhs;rw[zlu]
  by_cases c:p*p∣x.2
  ·rw[if_pos c,if_pos c]
   have h1:0<x.2/(p*p):=Nat.div_pos (Nat.le_of_dvd h c) (by omega);have h2:x.2/(p*p)<x.2:=Nat.div_lt_self h (by omega);exact zyi hp f _ h1 (by show x.2/(p*p)<=f;omega)
  ·rw[if_neg c,if_neg c]
theorem zyj {p:Nat} (hp:2<=p) (x:Nat×Nat) (h:0<x.2):∀d,zlu p (x.2+d) x=zlu p x.2 x
 |0=>rfl
 |d+1=>by rw[<-Nat.add_assoc,zyi hp _ x h (by omega),zyj hp x h d]
theorem z78 {p c l:Nat} (h:¬p*p∣l):zkk p (c,l)=(c,l):=by
 unfold zkk
 cases l with
 |zero=>rfl
 |succ l=>show zlu p (l+1) _=_;rw[zlu,if_neg h]
theorem z7m {p c l:Nat} (hp:2<=p) (hl:0<l) (h:p*p∣l):zkk p (c,l)=zkk p (c*p,l/(p*p)):=by
 have hpp:4<=p*p:=Nat.mul_le_mul hp hp;have h1:0<l/(p*p):=Nat.div_pos (Nat.le_of_dvd hl h) (by omega);have h2:l/(p*p)<l:=Nat.div_lt_self hl (by omega);unfold zkk;show zlu p l (c,l)=zlu p (l/(p*p)) (c*p,l/(p*p));obtain⟨m,rfl⟩:∃m,l=m+1:=⟨l-1,by omega⟩;rw[zlu,if_pos h];obtain⟨d,hd⟩:∃d,m=(m+1)/(p*p)+d:=⟨m-(m+1)/(p*p),by omega⟩;have:=zyj hp (c*p,(m+1)/(p*p)) h1 d;exact(congrArg (λf=>zlu p f (c*p,(m+1)/(p*p))) hd).trans this
def zro (l:List Nat) (x:Nat×Nat):Nat×Nat:=l.foldl (λx p=>zkk p x) x
def zn7 (N:Nat):Nat×Nat:=
 let x:=zro prL (1,N)
 if isq x.2*isq x.2=x.2 then(x.1*isq x.2,1) else x
structure NrmS (N k:Nat) (x:Nat×Nat):Prop where
 out:zro (prL.drop k) x=zro prL (1,N)
structure NcS (N C L:Nat):Prop where
 out:zn7 N=(C,L)
theorem NrmS.start (N:Nat):NrmS N 0 (1,N):=⟨rfl⟩
theorem z79 (k:Nat) (hk:k<25):prL.drop k=prN k::prL.drop (k+1):=by
 have h:k<prL.length:=hk;rw[List.drop_eq_getElem_cons h];congr 1;unfold prN;rw[List.getD_eq_getElem?_getD,yB h];rfl
theorem NrmS.enter {N k p c l:Nat} (h:NrmS N k (c,l)) (hk:k<25) (hp:p=prN k):NrmS N (k+1) (zkk p (c,l)):=⟨by
 rw[<-h.out,z79 k hk,hp];rfl⟩
theorem NrmS.yes {N k p c l:Nat} (h:NrmS N k (zkk p (c,l))) (hp:2<=p) (hl:0<l) (hd:p*p∣l):NrmS N k (zkk p (c*p,l/(p*p))):=by rw[<-z7m hp hl hd];exact h
theorem NrmS.no {N k p c l:Nat} (h:NrmS N k (zkk p (c,l))) (hd:¬p*p∣l):NrmS N k (c,l):=by rw[z78 hd] at h;exact h
theorem NrmS.done {N c l:Nat} (h:NrmS N 25 (c,l)):zro prL (1,N)=(c,l):=h.out.symm
theorem zv1 (n d N C L:Nat) (HCL:NcS N C L) (hN0:0<N) (hd0:0<d) (HN:Hid (n*d=N)) (HN9:Hid (N<1000000000000000000/\d<1000000000000000000))
 (AT:Hid (∀i,i<25->∀W:zA,qJ 150 #[St (prS i)] W (.tuple #[I (prN i),.nilIface])))
 (w:zA) (HW:Hid (Wd w)) (HP:Hid (Pw w)):
 qJ 162 #[.int .i64 (n:Int),.int .i64 (d:Int)] w (.tuple #[St (numS ((C:Rat)/(d:Rat))),St (zD L)]):=by
 obtain⟨tt,fz,hblk⟩:=HP.out.block;have hwm:IntKind.i64.wrap ((n:Int)*(d:Int))=N:=by rw[<-Int.natCast_mul,HN.out];exact zI _ (by have:=HN9.out;omega)
 go_enter Tryz.func162,Tryz.ntmps162;go_wp2_with (refine wpList_load_row rfl 259 (.global 1) rfl 1 rfl tt prV fz (.array 25 9) hblk (by kernel_rfl) rfl (by kernel_rfl) ?_);have hB0:=zM w.heap.size w;go_loopw [6,7,19] (λc lf i wr=>∃k cN lN:Nat,k<=25/\c=I cN/\lf=I lN/\i=.int .i64 (k:Int)/\Hid (cN*cN*lN=N)/\Hid (NrmS N k (cN,lN))/\Hid (qL w wr))
  (λ_ _ i _=>25-(zL i).toNat)
 case atStart=>exact⟨0,1,N,by omega,rfl,rfl,rfl,hid (by omega),hid (NrmS.start N),hid hB0⟩
 case round=>
  clear hB0 hwm hblk;obtain⟨k,cN,lN,hk,rfl,rfl,rfl,hE,hD,hB⟩:=hrel;by_cases hlt:k<25
  ·have hx:=λw=>z25 k hlt w
   obtain⟨g1,g2⟩:=zw4 k hlt;have hat:=hid (AT.out k hlt);obtain⟨p,hp⟩:=zzX (prN k);rw[<-hp] at g1 g2 hat
   have HPk:=hid hp;clear hp;generalize prS k=y at*
   have hwp:IntKind.i64.wrap ((p:Int)*(p:Int))=((p*p:Nat):Int):=by
    have:p*p<=97*97:=Nat.mul_le_mul g2 g2;rw[<-Int.natCast_mul];exact zI _ (by omega)
   have hpp:4<=p*p:=Nat.mul_le_mul g1 g1;obtain⟨pp,hpp2⟩:=zzX (p*p);rw[<-hpp2] at hwp hpp;have HPP:=hid hpp2;clear hpp2;go_wp21;refine zzM (hat.out wr) λw2 hb2=>?_;have hB2:=hid (hB.out.trans (hb2.mono hB.out.size));clear hb2 hB hx hat
   go_wp21;go_loopw [6,7] (λc lf wr=>∃cN lN:Nat,c=I cN/\lf=I lN/\Hid (cN*cN*lN=N)/\Hid (NrmS N (k+1) (zkk p (cN,lN)))/\Hid (qL w wr))
    (λ_ lf _=>(zL lf).toNat)
   case atStart=>exact⟨cN,lN,rfl,rfl,hE,hid (hD.out.enter hlt HPk.out),hB2⟩
   case round=>
    clear hE hD hB2;obtain⟨cN,lN,rfl,rfl,hE,hD,hB⟩:=hrel;have hl0:0<lN:=yS (λh=>by have:=hE.out;rw[h] at this;simp at this;omega);have hpp0:¬pp=0:=by omega
    have hle:lN<=N:=by rw[<-hE.out];exact Nat.le_mul_of_pos_left _ (yS (λh=>by have:=hE.out;rw[h] at this;simp at this;omega))
    have hmod:(lN:Int).tmod (pp:Int)=((lN%pp:Nat):Int):=rfl;have hdiv:(lN:Int).tdiv (pp:Int)=((lN/pp:Nat):Int):=rfl;have hwz:∀z:Nat,z<=lN->IntKind.i64.wrap (z:Int)=(z:Int):=λz hz=>zI _ (by have:=HN9.out;omega);have hwm:=hwz _ (Nat.mod_le lN pp);have hwd:=hwz _ (Nat.div_le_self lN pp);have hwq:IntKind.i64.wrap ((lN:Int)/(pp:Int))=((lN/pp:Nat):Int):=by rw[<-Int.natCast_ediv];exact hwd
    have HWQ:=hid hwq;clear hwz hwq;by_cases hd:pp∣lN
    ·have hm0:(((lN%pp:Nat):Int)==0)=true:=by rw[Nat.mod_eq_zero_of_dvd hd];rfl
     have hnext:=z1s (c:=cN) (l:=lN) (p:=p) (by rw[<-HPP.out];exact hd);rw[<-HPP.out,hE.out] at hnext;have hl1:0<lN/pp:=yS (λh=>by rw[h] at hnext;simp at hnext;omega);have hcp:cN*p<=N:=by
      rw[<-hnext];exact zO (Nat.le_mul_self _) (Nat.le_mul_of_pos_right _ hl1)
     have hwc:IntKind.i64.wrap ((cN:Int)*(p:Int))=((cN*p:Nat):Int):=by rw[<-Int.natCast_mul];exact zI _ (by have:=HN9.out;omega)
     have hlt2:lN/pp<lN:=Nat.div_lt_self hl0 (by omega);have hkeep:NrmS N (k+1) (zkk p (cN*p,lN/pp)):=by rw[HPP.out];exact hD.out.yes g1 hl0 (by rw[<-HPP.out];exact hd)
     have HNX:=hid hnext;have HK:=hid hkeep;have HL:=hid hlt2;clear hnext hkeep hd hlt2 hl1 hcp;go_wp2
     (refine wp_region_quiet_lit (by kernel_rfl) (by kernel_rfl) (WQ.out ?_);(repeat(first|(apply WQ.read (by rfl);(focus(rintro W ⟨n,rfl⟩;go_simp;try with_reducible rfl));try simp only[zzQ])|(apply WQ.skip (by rfl);try simp only[zzQ])));refine WQ.nil ?_;rintro _ ⟨nq,rfl⟩)
     go_wp2;go_roundw
     case rel=>exact⟨cN*p,lN/pp,by first|rfl|simp,by first|(rw[HWQ.out])|rfl|simp,HNX,HK,hid (zao hB.out _)⟩
     case measure=>
      rw[HWQ.out];show(lN/pp:Nat)<lN;exact HL.out
    ·have hm0:(((lN%pp:Nat):Int)==0)=false:=by
      rw[beq_eq_false_iff_ne];intro h;exact hd (Nat.dvd_of_mod_eq_zero (by omega))
     have hkeep:NrmS N (k+1) (cN,lN):=hD.out.no (by rw[<-HPP.out];exact hd);have HK:=hid hkeep;clear hkeep hd;go_wp2;go_roundw
     case rel=>exact⟨k+1,cN,lN,by omega,rfl,rfl,by go_num,hE,HK,hB⟩
     case measure=>simp[zL];omega
  ·have hk25:k=25:=by omega
   have hc0:0<cN:=yS (λh=>by have:=hE.out;rw[h] at this;simp at this;omega);have hl0:0<lN:=yS (λh=>by have:=hE.out;rw[h] at this;simp at this;omega);have hle:lN<=N:=by rw[<-hE.out];exact Nat.le_mul_of_pos_left _ (Nat.mul_pos hc0 hc0)
   have hce:cN<=N:=by rw[<-hE.out];exact zO (Nat.le_mul_self _) (Nat.le_mul_of_pos_right _ hl0)
   have hsq0:=zv0 lN;have HNC:=hid (show(C,L)=if isq lN*isq lN=lN then(cN*isq lN,1) else(cN,lN) by
    have hd:=hD.out;rw[hk25] at hd;have hd2:=hd.done;rw[<-HCL.out];unfold zn7;rw[hd2])
   generalize isq lN=s at*
   obtain⟨hs1,hs2⟩:=hsq0;have HSQ:=hid (⟨hs1,hs2⟩:s*s<=lN/\lN<(s+1)*(s+1));have hwss:IntKind.i64.wrap ((s:Int)*(s:Int))=((s*s:Nat):Int):=by rw[<-Int.natCast_mul];exact zI _ (by have:=HN9.out;omega)
   have HRT:=hid (ztm lN s (by have:=HN9.out;omega) ⟨hs1,hs2⟩ wr);have HLL:=hid (⟨hle,hce,hc0⟩:_/\_/\_);clear hk25 hD HCL AT hs1 hs2 hle hce hl0 hc0;obtain⟨ss,hss⟩:=zzX (s*s);rw[<-hss] at hwss;have HSS:=hid hss;clear hss;go_wp21;refine zzM HRT.out λw2 hw1=>?_;have hw2:=hw1.symm;subst hw2;clear hw1 HRT;by_cases hsq:ss=lN
   ·have hsq1:((ss:Int)==(lN:Int))=true:=by rw[hsq];simp
    have hcs:cN*s<=N:=by
     have h1:=hE.out;rw[<-hsq,HSS.out] at h1;have h2:(cN*s)*(cN*s)=N:=by rw[<-h1];simp only[yP,Nat.mul_left_comm]
     rw[<-h2];exact Nat.le_mul_self _
    have hwcs:IntKind.i64.wrap ((cN:Int)*(s:Int))=((cN*s:Nat):Int):=by rw[<-Int.natCast_mul];exact zI _ (by have:=HN9.out;omega)
    have HE:=hid (show C=cN*s/\L=1 by have:=HNC.out;rw[if_pos (by rw[<-HSS.out];exact hsq)] at this;exact Prod.mk.inj this);have HX:=hid (show(cN*s)*(cN*s)*1=N by
     have h1:=hE.out;rw[<-hsq,HSS.out] at h1;rw[Nat.mul_one,<-h1];simp only[yP,Nat.mul_left_comm])
    have HOF:=hid (λW hW=>z7l (cN*s) d hd0 (by have:=HN9.out;omega) HN9.out.2 W hW);clear hsq hcs hE HX HNC;generalize cN*s=cs at*
    go_wp21;refine zzM (HOF.out wr (HW.out.below hB.out)) λw3 hb3=>?_;have hB3:=hB.out.trans (hb3.mono hB.out.size);go_wp21;have hit:=zb3 1 (by omega) (by omega) w3 (HW.out.below hB3);rw[show Lib.itoa 1=zD 1 from by show Lib.itoa ((1:Nat):Int)=_;rw[Str.zad]] at hit;refine zzM hit λw4 hb4=>?_;have hB4:=hB3.trans (hb4.mono hB3.size);clear hit hb3 hb4;go_wp21;go_ret2;exact⟨by rw[HE.out.1,HE.out.2]<;>rfl,hB4⟩
   ·have hsq1:((ss:Int)==(lN:Int))=false:=beq_eq_false_iff_ne.2 (by omega)
    have HNL:=hid (show C=cN/\L=lN by have:=HNC.out;rw[if_neg (by rw[<-HSS.out];exact hsq)] at this;exact Prod.mk.inj this);have HOF:=hid (λW hW=>z7l cN d hd0 (by have:=HN9.out;have:=HLL.out;omega) HN9.out.2 W hW);have HIT:=hid (λW hW=>zb3 (lN:Int) (by omega) (by have:=HN9.out;have:=HLL.out;omega) W hW);clear hsq HNC;go_wp21;refine zzM (HOF.out wr (HW.out.below hB.out)) λw3 hb3=>?_;have hB3:=hB.out.trans (hb3.mono hB.out.size);go_wp21;refine zzM (HIT.out w3 (HW.out.below hB3)) λw4 hb4=>?_;have hB4:=hB3.trans (hb4.mono hB3.size);clear hb3 hb4;go_wp21;go_ret2;exact⟨by rw[HNL.out.1,HNL.out.2,Str.zad]<;>rfl,hB4⟩
theorem zfg:zD 1=[49]:=by rw[zae (by omega)];rfl
theorem zfc:numS 1=[49]:=by have:=zc5 1;rw[zfg] at this;exact this
end Go.Proofs.YtfoodcpnnmonhaaGreatDoor
namespace Go.Proofs.YtfoodcpnnmonhaaGreatDoor
open Go
variable {F:Fence} {n:Nat} {P:Program} {ops:Array Oper} {β:Type}
section
variable {vs:β->Nat->Value} {C:β->(Nat->Bool)->zA->Prop} {K:Act->zA->Prop} {k:Nat} {o:Oper} {rest:List Oper} {a:Act} {b:β}
end
end Go.Proofs.YtfoodcpnnmonhaaGreatDoor
namespace Go.Proofs.YtfoodcpnnmonhaaGreatDoor
open Go.RowKit Go.Shelf Lib Str Limb
attribute [local go_sem] Oper.semAt_some
theorem zai {W W':zA} (h:qL W W') {b o:Nat} {v:Value} (hc:W.cell? ⟨b,o,none⟩=some v):W'.cell? ⟨b,o,none⟩=some v:=(zac h).cell hc
end Go.Proofs.YtfoodcpnnmonhaaGreatDoor
namespace Go.Proofs.YtfoodcpnnmonhaaGreatDoor
open Go.RowKit Go.Shelf Lib Str Limb Geo
attribute [local go_sem] Oper.semAt_some
def cor (l:List Pt) (k:Nat):Pt:=l[k%l.length]?.getD ⟨0,0⟩
theorem zcj {W W':zA} (h:CellsKept W W') {B:Nat} {e:TypeId} {s:Nat} {v:Value} {n:Nat} {xs:List Value} (ho:W.ownsRow B e s v n xs):W'.ownsRow B e s v n xs:=by
 obtain⟨hl,ho⟩:=ho;refine⟨hl,?_⟩;rcases ho with ho|⟨g,cap,cur,e,hb,hg,hr⟩
 ·exact .inl ho
 ·exact .inr ⟨g,cap,cur,e,hb,h _ _ _ _ hg,hr⟩
theorem zmb {P:Program} (C':Value->zA->Prop) {o:Oper} {a:Act} (w:zA) (s x:Operand) (t:TypeId)
 (ho:o.op=.call {callee:=.builtin .append,args:= #[s,x],argTypes:= #[t,t]})
 (base:Nat) (e:TypeId) (i:TypeInfo) (z:Value) (size bytes:Nat) (ht:P.underlying t=some (.slice e)) (hi:P.info? e=some i) (hz:i.zero=some z)
 (hsize:i.size=size) (hby:i.bytes=bytes) (hzs:z.cells.size=size) (hsz:0<size)
 (v:Value) (n:Nat) (xs:List Value) (hs:a.eval s=v) (hown:w.ownsRow base e size v n xs)
 (ad:Addr) (m c:Nat) (news:List Value) (hx:a.eval x=.slice (some ad) m c) (hl:news.length=m*size) (hnews:∀j u,news[j]? =some u->w.cell? (ad.add j)=some u) (h1:∀u∈news,u.oneCell'=true)
 (h63:n+m<=maxLen) (hbytes:(n+m)*bytes<=140737488355328) (hbase:base<=w.heap.size)
 (h:∀v' w',w'.ownsRow base e size v' (n+m) (xs++news)->w.grownBy w' v.ownBlock->C' v' w'):zfp P C' ((execOp a.eval o).run P w):=by
 obtain⟨v',w',hr,h2,h3,h4⟩:=run_append_own (P:=P) w base t o.type e i z size bytes ht hi hz hsize hby hzs hsz v n xs hown ad m c news hl hnews h1 h63 hbytes hbase;unfold execOp;simp only[ho,resolve,invoke,builtin,Sem.run_bind,Sem.run_pure,Result.andThen_ok,List.map_toArray,List.map_cons,List.map_nil,hs,hx,hr];exact h v' w' h2 h3
end Go.Proofs.YtfoodcpnnmonhaaGreatDoor
namespace Go.Proofs.YtfoodcpnnmonhaaGreatDoor
open Go.RowKit Go.Shelf Lib Str Limb
attribute [local go_sem] Oper.semAt_some
theorem zx5:(Tryz.prog.info? 158).map (λi=>(i.zero,i.size,i.bytes))=some (some (.agg #[St [],St []]),2,32):=by kernel_rfl
end Go.Proofs.YtfoodcpnnmonhaaGreatDoor
namespace Go.Proofs.YtfoodcpnnmonhaaGreatDoor
open Go.RowKit Go.Shelf Lib Str Limb
end Go.Proofs.YtfoodcpnnmonhaaGreatDoor
namespace Go.Proofs.YtfoodcpnnmonhaaGreatDoor
open Go.RowKit Go.Shelf Lib Str Limb
attribute [local go_sem] Oper.semAt_some
structure BxT (w:zA) (x y:ByteArray) (W:zA):Prop where
 bel:qL w W
 bx:W.heap[w.heap.size]? =some (.cells #[.string x,.string y] 49 (0,0))
section
variable {w W W':zA} {x y:ByteArray}
theorem BxT.next (h:BxT w x y W) (hb:qL W W'):BxT w x y W':=
 ⟨h.bel.trans (hb.mono h.bel.size),(hb.block _ (Array.getElem?_eq_some_iff.1 h.bx).1).trans h.bx⟩
theorem BxT.cx (h:BxT w x y W):W.cell? ⟨w.heap.size,0,none⟩=some (.string x)/\W.cell? ⟨w.heap.size,1,none⟩=some (.string y):=by have:=h.bx;simp[World.cell?,this]
theorem BxT.start (w:zA) (x y:ByteArray):BxT w x y (w.alloc (.cells #[.string x,.string y] 49)):=⟨(zM _ w).alloc (zN _) _,zG _ _⟩
end
theorem z6v (x y:ByteArray) (a b:Int) (hx0:(x.toList==[48])=false) (ha:¬60<a) (hb:¬40<b)
 (C1:Hid (qK 36 #[.string x] (.int .i64 0)))
 (C2:Hid (qK 36 #[.string y] (.int .i64 0)))
 (L1:Hid (qK 120 #[.string x] (.int .i64 a)))
 (L2:Hid (qK 120 #[.string y] (.int .i64 b)))
 (YY:Hid ((y.toList==[49])=true\/((y.toList==[49])=false/\(y.toList==[48])=false/\
   (qK 39 #[.string y,.string ⟨#[45]⟩] (.bool false))/\
   (qK 234 #[.string y,.string ⟨#[47]⟩] (.bool false))/\
   (∀W:zA,Wd W->Pw W->qJ 96 #[.string y] W (.tuple #[.string ⟨#[49]⟩,.string y,.int .i64 0])))))
 (w:zA) (HW:Hid (Wd w)) (HP:Hid (Pw w)):
 qJ 167 #[.agg #[.string x,.string y]] w (.int .i64 0):=by
 obtain⟨W0,hW0⟩:=zzX (w.alloc (.cells #[.string x,.string y] 49));have K0:=hid (show BxT w x y W0 by rw[hW0];exact BxT.start w x y);obtain⟨c0,c1⟩:=K0.out.cx;rw[hW0] at c0 c1;have H9:=hid hW0.symm;clear hW0;go_enter Tryz.func167,Tryz.ntmps167;go_wp21;rw[H9.out];clear c0 c1 H9;refine zzM (C1.out W0 (HW.out.below K0.out.bel)) λw1 hb1=>?_;have K1:=hid (K0.out.next hb1);clear hb1 K0 C1;obtain⟨c0,c1⟩:=K1.out.cx;go_wp21;clear c0 c1;refine zzM (C2.out w1 (HW.out.below K1.out.bel)) λw2 hb2=>?_;have K2:=hid (K1.out.next hb2);clear hb2 K1 C2;obtain⟨c0,c1⟩:=K2.out.cx;go_wp21;clear c0 c1;refine zzM (L1.out w2 (HW.out.below K2.out.bel)) λw3 hb3=>?_;have K3:=hid (K2.out.next hb3);clear hb3 K2 L1;obtain⟨c0,c1⟩:=K3.out.cx;go_wp21;clear c0 c1;refine zzM (L2.out w3 (HW.out.below K3.out.bel)) λw4 hb4=>?_;have K4:=hid (K3.out.next hb4);clear hb4 K3 L2;obtain⟨c0,c1⟩:=K4.out.cx;rcases YY.out with h1|⟨h1,h0,HPX,CT,NM⟩
 ·clear YY
  go_wp21;go_ret;exact⟨rfl,K4.out.bel⟩
 ·have HPX:=hid HPX;have CT:=hid CT;have NM:=hid NM
  clear YY;go_wp21;clear c0 c1;refine zzM (HPX.out w4 (HW.out.below K4.out.bel)) λw5 hb5=>?_;have K5:=hid (K4.out.next hb5);clear hb5 K4 HPX;obtain⟨c0,c1⟩:=K5.out.cx;go_wp21;clear c0 c1;refine zzM (CT.out w5 (HW.out.below K5.out.bel)) λw6 hb6=>?_;have K6:=hid (K5.out.next hb6);clear hb6 K5 CT;obtain⟨c0,c1⟩:=K6.out.cx;go_wp21;clear c0 c1;refine zzM (NM.out w6 (HW.out.below K6.out.bel) (HP.out.below K6.out.bel)) λw7 hb7=>?_;have K7:=hid (K6.out.next hb7);clear hb7 K6 NM;obtain⟨c0,c1⟩:=K7.out.cx;go_wp21;go_ret;exact⟨rfl,K7.out.bel⟩
theorem zxf (a b:Nat) (ha:a<1000000000000000000) (hb:b<1000000000000000000) (w:zA):
 zC zF 207 #[I a,I b] w λe w'=>∃nd,e=.returned (I (Nat.gcd a b))/\w'=w.drewN nd:=by
 obtain⟨g,hg⟩:=zzX (Nat.gcd a b);rw[<-hg];have HG:=hid hg;clear hg;go_enter Tryz.func207,Tryz.ntmps207;go_wp2;go_loopw [0,1] (λx y wr=>∃m n:Nat,x=I m/\y=I n/\Hid (Nat.gcd m n=g)/\m<1000000000000000000/\n<1000000000000000000/\∃nd,wr=w.drewN nd)
  (λ_ y _=>(zL y).toNat)
 case atStart=>exact⟨a,b,rfl,rfl,HG.out.symm,ha,hb,0,rfl⟩
 case round=>
  clear ha hb;obtain⟨m,n,rfl,rfl,hgm,m1,n1,nd,rfl⟩:=hrel;by_cases h0:n=0
  ·subst h0
   have hm:m=g:=by have:=hgm.out;rw[Nat.gcd_zero_right] at this;exact this
   have HM:=hid hm;clear hm;go_wp2;go_ret;exact⟨nd,by rw[HM.out];rfl,rfl⟩
  ·have hn0:((n:Int) !=0)=true:=by simp;omega
   obtain⟨t,ht⟩:=zzX (m%n);have ht1:t<n:=by rw[ht];exact Nat.mod_lt _ (by omega)
   have hgt:=zh1 m n;rw[<-ht] at hgt;have hwr:IntKind.i64.wrap ((m:Int).tmod n)=(t:Int):=by
    rw[Int.tmod_eq_emod_of_nonneg (by omega),<-Int.natCast_emod,<-ht];exact zI _ (by omega)
   have hwe:((m:Int).tmod n)=(t:Int):=by rw[Int.tmod_eq_emod_of_nonneg (by omega),<-Int.natCast_emod,<-ht]
   have HGT:=hid hgt;have HW:=hid hwe;clear hgt ht hwe;go_wp2
   (refine wp_region_quiet_lit (by kernel_rfl) (by kernel_rfl) (WQ.out ?_);(repeat(first|(apply WQ.read (by rfl);(focus(rintro W ⟨n,rfl⟩;go_simp;try with_reducible rfl));try simp only[zzQ])|(apply WQ.skip (by rfl);try simp only[zzQ])));refine WQ.nil ?_;rintro _ ⟨nq,rfl⟩)
   go_wp2;go_roundw
   case rel=>exact⟨n,t,rfl,by first|rfl|(rw[HW.out])|(show Value.int .i64 _=Value.int .i64 _;congr 1;have:=HW.out;rw[<-this,Int.tmod_eq_emod_of_nonneg (by omega)]),HGT.out.trans hgm.out,n1,by omega,_,World.drewN_drewN _ _ _⟩
   case measure=>first|(show((m:Int).tmod n).toNat<(n:Int).toNat;rw[HW.out];omega)|(simp[zL];omega)
theorem zds (l:List UInt8) (s:ByteArray) (hs:s=⟨l.toArray⟩):s.size=l.length/\∀k (hk:k<l.length) (hb:k<s.size),s[k]'hb=l[k]'hk:=by
 subst hs;exact⟨by show l.toArray.size=_;simp,λk hk hb=>rfl⟩
theorem zsa (l:List UInt8):zcb l↔l.length≠0/\¬(1<l.length/\l.head? =some 48)/\∀k (hk:k<l.length),48<=(l[k]'hk).toNat/\(l[k]'hk).toNat<=57:=by
 constructor
 ·rintro⟨h1,h2,h3⟩
  exact⟨λh=>h1 (List.length_eq_zero_iff.1 h),λ⟨h4,h5⟩=>by have:=h3 h5;omega,λk hk=>h2 _ (zY hk)⟩
 ·rintro⟨h1,h2,h3⟩
  refine⟨λh=>h1 (by rw[h];rfl),λc hc=>?_,λh=>?_⟩
  ·obtain⟨k,hk,rfl⟩:=List.getElem_of_mem hc
   exact h3 k hk
  ·exact Nat.le_antisymm (Nat.le_of_not_lt λh4=>h2 ⟨h4,h⟩) (by omega)
theorem zsg (l:List UInt8) (hl:l.length<=1000000) (w:zA):
 zC zF 206 #[St l] w λe w'=>∃b,e=.returned (.bool b)/\(b=true↔zcb l)/\w'=w:=by
 rw[zsa];obtain⟨s,hs⟩:=zzX (⟨l.toArray⟩:ByteArray);obtain⟨b1,b2⟩:=zds l s hs;show zC _ _ #[.string ⟨l.toArray⟩] _ _;rw[<-hs];have hh:∀hb:0<s.size,l.head? =some 48↔(s[0]'hb).toNat=48:=λhb=>by
  have h0:0<l.length:=by omega
  rw[b2 0 h0 hb,List.head?_eq_getElem?,yB h0];constructor
  ·intro h;injection h with h;rw[h];rfl
  ·intro h;congr 1;exact UInt8.toNat_inj.1 (by rw[h];rfl)
 obtain⟨Q,hQ⟩:∃Q:Prop,Q=(l.length≠0/\¬(1<l.length/\l.head? =some 48)/\∀k (hk:k<l.length),48<=(l[k]'hk).toNat/\(l[k]'hk).toNat<=57):=⟨_,rfl⟩;rw[<-hQ];have q1:s.size=0->¬Q:=λh=>by rw[hQ];exact λk=>k.1 (by omega)
 have q2:∀hb:0<s.size,1<s.size->(s[0]'hb).toNat=48->¬Q:=λhb h h'=>by rw[hQ];exact λk=>k.2.1 ⟨by omega,(hh hb).2 h'⟩
 have q3:∀k (hb:k<s.size),((s[k]'hb).toNat<48\/57<(s[k]'hb).toNat)->¬Q:=λk hb h=>by
  rw[hQ];intro k';have:=k'.2.2 k (by omega);rw[b2 k (by omega) hb] at h;omega
 have q4:∀hb:0<s.size,¬(1<s.size/\(s[0]'hb).toNat=48)->(∀k (hb:k<s.size),48<=(s[k]'hb).toNat/\(s[k]'hb).toNat<=57)->Q:=λhb h h'=>by
  rw[hQ];exact⟨by omega,λ⟨k1,k2⟩=>h ⟨by omega,(hh hb).1 k2⟩,λk hk=>by have:=h' k (by omega);rwa [b2 k hk (by omega)] at this⟩
 have hsz:s.size<=1000000:=by omega
 have Q1:=hid q1;have Q2:=hid q2;have Q3:=hid q3;have Q4:=hid q4;clear q1 q2 q3 q4 hh hQ b1 b2 hs hl;go_enter Tryz.func206,Tryz.ntmps206;by_cases h0:s.size=0
 ·have h0':((s.size:Int)==0)=true:=by simpa using h0
  go_wp2;go_ret;exact⟨false,rfl,⟨λh=>by simp at h,λh=>absurd h (Q1.out h0)⟩,rfl⟩
 ·have h0':((s.size:Int)==0)=false:=by simpa using h0
  have h00:0<s.size:=by omega
  by_cases h1:1<s.size
  ·have h1':(1:Int)<s.size:=by omega
   by_cases h2:(s[0]'h00).toNat=48
   ·have h2':(((s[0]'h00).toNat:Int)==48)=true:=by rw[h2];rfl
    have HN:=hid (Q2.out h00 h1 h2);clear h2;go_wp2;go_ret;exact⟨false,rfl,⟨λh=>by simp at h,λh=>absurd h HN.out⟩,rfl⟩
   ·have h2':(((s[0]'h00).toNat:Int)==48)=false:=by rw[beq_eq_false_iff_ne];omega
    have HN:=hid h2;clear h2;go_wp2;go_loop [3] (λi=>∃k:Nat,k<=s.size/\i=.int .i64 k/\Hid (∀j (hb:j<s.size),j<k->48<=(s[j]'hb).toNat/\(s[j]'hb).toNat<=57)) (λi=>s.size-(zL i).toNat)
    case atStart=>exact⟨0,zR _,rfl,λj _ h=>by omega⟩
    case round=>
     obtain⟨k,hk,rfl,hP⟩:=hrel;by_cases hlt:k<s.size
     ·by_cases d1:(s[k]'hlt).toNat<48
      ·have e1:(((s[k]'hlt).toNat:Int))<48:=by omega
       have HN:=hid (Q3.out k hlt (.inl d1));clear d1;go_wp2;go_ret
       first|exact .inl ⟨rfl,HN.out,rfl⟩|exact⟨false,rfl,⟨λh=>by simp at h,λh=>absurd h HN.out⟩,rfl⟩
      ·by_cases d2:57<(s[k]'hlt).toNat
       ·have e1:(48:Int)<=(s[k]'hlt).toNat:=by omega
        have e2:(57:Int)<(s[k]'hlt).toNat:=by omega
        have HN:=hid (Q3.out k hlt (.inr d2));clear d1 d2;go_wp2;go_ret
        first|exact .inl ⟨rfl,HN.out,rfl⟩|exact⟨false,rfl,⟨λh=>by simp at h,λh=>absurd h HN.out⟩,rfl⟩
       ·have e1:(48:Int)<=(s[k]'hlt).toNat:=by omega
        have e2:((s[k]'hlt).toNat:Int)<=57:=by omega
        have hnext:∀j (hb:j<s.size),j<k+1->48<=(s[j]'hb).toNat/\(s[j]'hb).toNat<=57:=λj hb h=>by
         by_cases e:j=k
         ·subst e;omega
         ·exact hP.out j hb (by omega)
        have HN:=hid hnext;clear hnext d1 d2;go_wp2;go_round
        case rel=>exact⟨k+1,by omega,by go_num,HN⟩
        case measure=>simp[zL];omega
     ·have hq:=Q4.out h00 (λh=>HN.out h.2) (λj hb=>hP.out j hb (by omega))
      have HQ:=hid hq;clear hq;go_wp2;go_ret
      first|exact .inr ⟨rfl,HQ.out,rfl⟩|exact⟨true,rfl,⟨λ_=>HQ.out,λ_=>rfl⟩,rfl⟩
  ·have h1':¬(1:Int)<s.size:=by omega
   go_wp2;go_loop [3] (λi=>∃k:Nat,k<=s.size/\i=.int .i64 k/\Hid (∀j (hb:j<s.size),j<k->48<=(s[j]'hb).toNat/\(s[j]'hb).toNat<=57)) (λi=>s.size-(zL i).toNat)
   case atStart=>exact⟨0,zR _,rfl,λj _ h=>by omega⟩
   case round=>
    obtain⟨k,hk,rfl,hP⟩:=hrel;by_cases hlt:k<s.size
    ·by_cases d1:(s[k]'hlt).toNat<48
     ·have e1:(((s[k]'hlt).toNat:Int))<48:=by omega
      have HN:=hid (Q3.out k hlt (.inl d1));clear d1;go_wp2;go_ret
      first|exact .inl ⟨rfl,HN.out,rfl⟩|exact⟨false,rfl,⟨λh=>by simp at h,λh=>absurd h HN.out⟩,rfl⟩
     ·by_cases d2:57<(s[k]'hlt).toNat
      ·have e1:(48:Int)<=(s[k]'hlt).toNat:=by omega
       have e2:(57:Int)<(s[k]'hlt).toNat:=by omega
       have HN:=hid (Q3.out k hlt (.inr d2));clear d1 d2;go_wp2;go_ret
       first|exact .inl ⟨rfl,HN.out,rfl⟩|exact⟨false,rfl,⟨λh=>by simp at h,λh=>absurd h HN.out⟩,rfl⟩
      ·have e1:(48:Int)<=(s[k]'hlt).toNat:=by omega
       have e2:((s[k]'hlt).toNat:Int)<=57:=by omega
       have hnext:∀j (hb:j<s.size),j<k+1->48<=(s[j]'hb).toNat/\(s[j]'hb).toNat<=57:=λj hb h=>by
        by_cases e:j=k
        ·subst e;omega
        ·exact hP.out j hb (by omega)
       have HN:=hid hnext;clear hnext d1 d2;go_wp2;go_round
       case rel=>exact⟨k+1,by omega,by go_num,HN⟩
       case measure=>simp[zL];omega
    ·have hq:=Q4.out h00 (λh=>h1 h.1) (λj hb=>hP.out j hb (by omega))
     have HQ:=hid hq;clear hq;go_wp2;go_ret
     first|exact .inr ⟨rfl,HQ.out,rfl⟩|exact⟨true,rfl,⟨λ_=>HQ.out,λ_=>rfl⟩,rfl⟩
theorem zlj (l:List UInt8) (hd:∀c∈l,48<=c.toNat/\c.toNat<=57) (hl:l.length<=9) (w:zA):
 zC zF 208 #[St l] w λe w'=>e=.returned (I (val l))/\w'=w:=by
 obtain⟨s,hs⟩:=zzX (⟨l.toArray⟩:ByteArray);obtain⟨b1,b2⟩:=zds l s hs;have hvt:=λk hk=>ziu (l:=l) hd (k:=k) hk;have hst:∀k (hb:k<s.size),48<=(s[k]'hb).toNat/\(s[k]'hb).toNat<=57/\val (l.take (k+1))=10*val (l.take k)+((s[k]'hb).toNat-48):=λk hb=>by
  have hk:k<l.length:=by omega
  rw[b2 k hk hb,List.take_succ_eq_append_getElem hk,zde];exact⟨(hd _ (zY hk)).1,(hd _ (zY hk)).2,rfl⟩
 have hfull:val (l.take s.size)=val l:=by rw[b1,List.take_length]
 show zC _ _ #[.string ⟨l.toArray⟩] _ _;rw[<-hs];have hs9:s.size<=9:=by omega
 generalize hvf:(λk=>val (l.take k))=vf at*
 have hvt':∀k,k<=9->vf k<1000000000:=by rw[<-hvf];exact hvt
 have hst':∀k (hb:k<s.size),48<=(s[k]'hb).toNat/\(s[k]'hb).toNat<=57/\vf (k+1)=10*vf k+((s[k]'hb).toNat-48):=by rw[<-hvf];exact hst
 have hfull':vf s.size=val l:=by rw[<-hvf];exact hfull
 have hv0:vf 0=0:=by rw[<-hvf];rfl
 generalize val l=vl at*
 have VT:=hid hvt';have ST:=hid hst';have HF:=hid hfull';have V0:=hid hv0;clear hvt' hst' hfull' hv0 hvt hst hfull hvf b1 b2 hs hd hl;go_enter Tryz.func208,Tryz.ntmps208;go_wp2;go_loop [3,4] (λa i=>∃k:Nat,k<=s.size/\i=.int .i64 k/\a=.int .i64 (vf k:Nat)) (λ_ i=>s.size-(zL i).toNat)
 case atStart=>exact⟨0,zR _,rfl,by rw[V0.out];rfl⟩
 case round=>
  obtain⟨k,hk,rfl,rfl⟩:=hrel;by_cases hlt:k<s.size
  ·obtain⟨c1,c2,c3⟩:=ST.out k hlt
   have hv:=VT.out k (by omega);generalize vf k=v at*
   have C3:=hid c3;clear c3;have d1:(48:Int)<=(s[k].toNat:Int):=by omega
   have d2:(s[k].toNat:Int)<=57:=by omega
   go_wp2;go_round
   case rel=>exact⟨k+1,by omega,by go_num,by rw[C3.out];show Value.int .i64 _=Value.int .i64 _;congr 1;omega⟩
   case measure=>simp[zL];omega
  ·have hk':k=s.size:=by omega
   have HK:=hid hk';clear hk';go_wp2;go_ret;exact⟨by rw[HK.out,HF.out];rfl,rfl⟩
theorem zi1 (l:List UInt8) (k:Nat):((⟨l.toArray⟩:ByteArray).extract 0 k)=⟨(l.take k).toArray⟩:=by
 apply ByteArray.ext;rw[ByteArray.data_extract];simp
theorem zel (l:List UInt8) (k:Nat):((⟨l.toArray⟩:ByteArray).extract k (⟨l.toArray⟩:ByteArray).size)=⟨(l.drop k).toArray⟩:=by
 have:(⟨l.toArray⟩:ByteArray).size=l.length:=by show l.toArray.size=_;simp
 rw[this];apply ByteArray.ext;rw[ByteArray.data_extract];simp[List.take_of_length_le]
theorem zjy (b:List UInt8) (k:Nat) (hk:k<b.length) (h1:∀j (hj:j<b.length),j<k->b[j]'hj≠47) (h2:b[k]'hk=47):
 b.takeWhile (· !=47)=b.take k/\(b.dropWhile (· !=47)).tail=b.drop (k+1)/\(47:UInt8)∈b:=by
 have e:b=b.take k++47::b.drop (k+1):=by
  rw[<-h2,List.getElem_cons_drop,List.take_append_drop]
 have hn:(47:UInt8)∉b.take k:=by
  intro h;obtain⟨j,hj,e⟩:=List.getElem_of_mem h;rw[List.getElem_take] at e;simp at hj;exact h1 j (by omega) (by omega) e
 obtain⟨t1,t2⟩:=zs9 (b:=b.drop (k+1)) hn;refine⟨?_,?_,by rw[e];simp⟩
 ·conv=>lhs;rw[e]
  exact t1
 ·conv=>lhs;rw[e]
  rw[t2];rfl
theorem zpm (b:List UInt8) (h1:∀j (hj:j<b.length),b[j]'hj≠47):b.takeWhile (· !=47)=b/\(b.dropWhile (· !=47)).tail=[]/\(47:UInt8)∉b:=by
 have hn:(47:UInt8)∉b:=λh=>by
  obtain⟨j,hj,e⟩:=List.getElem_of_mem h;exact h1 j hj e
 refine⟨zgl hn,?_,hn⟩;have:b.dropWhile (· !=47)=[]:=by
  have h2:=List.takeWhile_append_dropWhile (p:=(· !=(47:UInt8))) (l:=b);rw[zgl hn] at h2;exact List.append_right_eq_self.1 h2
 rw[this];rfl
def zc6 (m:Bool) (b:List UInt8):Value:=.tuple #[.bool m,St (b.takeWhile (· !=47)),St ((b.dropWhile (· !=47)).tail),.bool (decide ((47:UInt8)∈b))]
theorem zpq (b:List UInt8) (hm:b.head? ≠some 45) (hl:b.length<=1000000) (w:zA):
 qJ 205 #[St b] w (zc6 false b):=by
 obtain⟨t,ht⟩:=zzX (⟨b.toArray⟩:ByteArray);obtain⟨b1,b2⟩:=zds b t ht;have kf:∀k (hk:k<t.size),(t[k]'hk).toNat=47->(∀j (hb:j<t.size),j<k->(t[j]'hb).toNat≠47)->zc6 false b=.tuple #[.bool false,.string (t.extract 0 k),.string (t.extract (k+1) t.size),.bool true]:=λk hk h1 h2=>by
  have hk':k<b.length:=by omega
  obtain⟨e1,e2,e3⟩:=zjy b k hk' (λj hj hjk he=>h2 j (by omega) hjk (by rw[b2 j hj (by omega),he];rfl)) (UInt8.toNat_inj.1 (by rw[<-b2 k hk' hk,h1];rfl));unfold zc6;rw[e1,e2,decide_eq_true e3,ht,zi1,zel]
 have kn:(∀j (hb:j<t.size),(t[j]'hb).toNat≠47)->zc6 false b=.tuple #[.bool false,.string t,.string ⟨#[]⟩,.bool false]:=λh2=>by
  obtain⟨e1,e2,e3⟩:=zpm b (λj hj he=>h2 j (by omega) (by rw[b2 j hj (by omega),he];rfl));unfold zc6;rw[e1,e2,decide_eq_false e3,ht]
 have KF:=hid kf;have KN:=hid kn;clear kf kn;have h0:t.size=0\/0<t.size/\∀hb:0<t.size,(((t[0]'hb).toNat:Int)==45)=false:=by
  by_cases h:t.size=0
  ·exact .inl h
  ·refine .inr ⟨by omega,λhb=>?_⟩
   rw[beq_eq_false_iff_ne];intro h';have hb0:0<b.length:=by omega
   refine hm ?_;rw[List.head?_eq_getElem?,yB hb0];congr 1;rw[b2 0 hb0 hb] at h';exact UInt8.toNat_inj.1 (by have:(45:UInt8).toNat=45:=rfl;omega)
 have hsz:t.size<=1000000:=by omega
 show zC _ _ #[.string ⟨b.toArray⟩] _ _;rw[<-ht];clear b1 b2 ht hl hm;generalize zc6 false b=v at*
 go_enter Tryz.func205,Tryz.ntmps205;rcases h0 with h0|⟨h0,h1⟩
 ·have h0':¬(0:Int)<t.size:=by omega
  have h9:=KN.out λj hb=>by omega
  have HN:=hid h9;clear h9;go_wp2;refine wp_loop_rounds 1 ?_;rw[rounds_succ];go_wp2;refine bodyPost_ret (v:=.tuple #[.bool false,.string t,.string ⟨#[]⟩,.bool false]) (by simp[results,Tryz.results205,go_sem]) rfl ⟨by rw[HN.out],zM _ _⟩
 ·have h1':=h1 h0
  have h0':(0:Int)<t.size:=by omega
  clear h1;go_wp2;go_loop [8] (λi=>∃k:Nat,k<=t.size/\i=.int .i64 k/\Hid (∀j (hb:j<t.size),j<k->(t[j]'hb).toNat≠47)) (λi=>t.size-(zL i).toNat)
  case atStart=>exact⟨0,zR _,rfl,λj _ h=>by omega⟩
  case round=>
   clear h1';obtain⟨k,hk,rfl,hP⟩:=hrel;by_cases hlt:k<t.size
   ·by_cases d1:(t[k]'hlt).toNat=47
    ·have e1:(((t[k]'hlt).toNat:Int)==47)=true:=by rw[d1];rfl
     have h9:=KF.out k hlt d1 hP.out;have HN:=hid h9;clear d1 h9;have hki:(k:Int)<=t.size:=by omega
     have hki1:(k:Int)+1<=t.size:=by omega
     have hk0:(0:Int)<=(k:Int)+1:=by omega
     have hwk:IntKind.i64.wrap ((k:Int)+1)=(k:Int)+1:=zI _ ⟨by omega,by omega⟩;go_wp2
     (refine wp_region_quiet_lit (by kernel_rfl) (by kernel_rfl) (WQ.out ?_);(repeat(first|(apply WQ.read (by rfl);(focus(rintro W ⟨n,rfl⟩;go_simp;try with_reducible rfl));try simp only[zzQ])|(apply WQ.skip (by rfl);try simp only[zzQ])));refine WQ.nil ?_;rintro _ ⟨nq,rfl⟩)
     go_wp2;refine bodyPost_ret (v:=.tuple #[.bool false,.string (t.extract 0 k),.string (t.extract (k+1) t.size),.bool true]) (by simp[results,Tryz.results205,go_sem]) rfl ⟨by rw[HN.out],zao (zM _ _) _⟩
    ·have e1:(((t[k]'hlt).toNat:Int)==47)=false:=by rw[beq_eq_false_iff_ne];omega
     have hnext:∀j (hb:j<t.size),j<k+1->(t[j]'hb).toNat≠47:=λj hb h=>by
      by_cases e:j=k
      ·subst e;exact d1
      ·exact hP.out j hb (by omega)
     have HN:=hid hnext;clear hnext d1;go_wp2;go_round
     case rel=>exact⟨k+1,by omega,by go_num,HN⟩
     case measure=>simp[zL];omega
   ·have h9:=KN.out λj hb=>hP.out j hb (by omega)
    have HN:=hid h9;clear h9;go_wp2;refine bodyPost_ret (v:=.tuple #[.bool false,.string t,.string ⟨#[]⟩,.bool false]) (by simp[results,Tryz.results205,go_sem]) rfl ⟨by rw[HN.out],zM _ _⟩
theorem zqd (b:List UInt8) (hl:b.length<=1000000) (w:zA):
 qJ 205 #[St (45::b)] w (zc6 true b):=by
 obtain⟨t,ht⟩:=zzX (⟨b.toArray⟩:ByteArray);obtain⟨b1,b2⟩:=zds b t ht;have kf:∀k (hk:k<t.size),(t[k]'hk).toNat=47->(∀j (hb:j<t.size),j<k->(t[j]'hb).toNat≠47)->zc6 true b=.tuple #[.bool true,.string (t.extract 0 k),.string (t.extract (k+1) t.size),.bool true]:=λk hk h1 h2=>by
  have hk':k<b.length:=by omega
  obtain⟨e1,e2,e3⟩:=zjy b k hk' (λj hj hjk he=>h2 j (by omega) hjk (by rw[b2 j hj (by omega),he];rfl)) (UInt8.toNat_inj.1 (by rw[<-b2 k hk' hk,h1];rfl));unfold zc6;rw[e1,e2,decide_eq_true e3,ht,zi1,zel]
 have kn:(∀j (hb:j<t.size),(t[j]'hb).toNat≠47)->zc6 true b=.tuple #[.bool true,.string t,.string ⟨#[]⟩,.bool false]:=λh2=>by
  obtain⟨e1,e2,e3⟩:=zpm b (λj hj he=>h2 j (by omega) (by rw[b2 j hj (by omega),he];rfl));unfold zc6;rw[e1,e2,decide_eq_false e3,ht]
 have KF:=hid kf;have KN:=hid kn;clear kf kn;obtain⟨s,hs⟩:=zzX (⟨((45:UInt8)::b).toArray⟩:ByteArray);obtain⟨s1,s2,s3,s4,s5⟩:=zgu b s hs;have h45:=s4 s2;have hsl:(1:Int)<=s.size:=by omega
 have hs0:(0:Int)<s.size:=by omega
 rw[<-ht] at s5;have hsz:t.size<=1000000:=by omega
 show zC _ _ #[.string ⟨((45:UInt8)::b).toArray⟩] _ _;rw[<-hs];clear b1 b2 ht hl s1 s3 s4 hs;generalize zc6 true b=v at*
 go_enter Tryz.func205,Tryz.ntmps205;go_wp2;go_loop [8] (λi=>∃k:Nat,k<=t.size/\i=.int .i64 k/\Hid (∀j (hb:j<t.size),j<k->(t[j]'hb).toNat≠47)) (λi=>t.size-(zL i).toNat)
 case atStart=>exact⟨0,zR _,rfl,λj _ h=>by omega⟩
 case round=>
  clear h45 hsl hs0 s5;obtain⟨k,hk,rfl,hP⟩:=hrel;by_cases hlt:k<t.size
  ·by_cases d1:(t[k]'hlt).toNat=47
   ·have e1:(((t[k]'hlt).toNat:Int)==47)=true:=by rw[d1];rfl
    have h9:=KF.out k hlt d1 hP.out;have HN:=hid h9;clear d1 h9;have hki:(k:Int)<=t.size:=by omega
    have hki1:(k:Int)+1<=t.size:=by omega
    have hk0:(0:Int)<=(k:Int)+1:=by omega
    have hwk:IntKind.i64.wrap ((k:Int)+1)=(k:Int)+1:=zI _ ⟨by omega,by omega⟩;go_wp2
    (refine wp_region_quiet_lit (by kernel_rfl) (by kernel_rfl) (WQ.out ?_);(repeat(first|(apply WQ.read (by rfl);(focus(rintro W ⟨n,rfl⟩;go_simp;try with_reducible rfl));try simp only[zzQ])|(apply WQ.skip (by rfl);try simp only[zzQ])));refine WQ.nil ?_;rintro _ ⟨nq,rfl⟩)
    go_wp2;refine bodyPost_ret (v:=.tuple #[.bool true,.string (t.extract 0 k),.string (t.extract (k+1) t.size),.bool true]) (by simp[results,Tryz.results205,go_sem]) rfl ⟨by rw[HN.out],zao (zM _ _) _⟩
   ·have e1:(((t[k]'hlt).toNat:Int)==47)=false:=by rw[beq_eq_false_iff_ne];omega
    have hnext:∀j (hb:j<t.size),j<k+1->(t[j]'hb).toNat≠47:=λj hb h=>by
     by_cases e:j=k
     ·subst e;exact d1
     ·exact hP.out j hb (by omega)
    have HN:=hid hnext;clear hnext d1;go_wp2;go_round
    case rel=>exact⟨k+1,by omega,by go_num,HN⟩
    case measure=>simp[zL];omega
  ·have h9:=KN.out λj hb=>hP.out j hb (by omega)
   have HN:=hid h9;clear h9;go_wp2;refine bodyPost_ret (v:=.tuple #[.bool true,.string t,.string ⟨#[]⟩,.bool false]) (by simp[results,Tryz.results205,go_sem]) rfl ⟨by rw[HN.out],zM _ _⟩
theorem zlq (l:List UInt8) (hl:l.length<=1000000) (w:zA):
 qJ 205 #[St l] w (.tuple #[.bool (decide (l.head? =some 45)),St (upS l),St (dnS l),.bool (decide ((47:UInt8)∈bare l))]):=by
 rcases zgm l with⟨h1,h2⟩|⟨h1,h2⟩
 ·rw[decide_eq_true h1]
  have:=zqd (bare l) (by have:=congrArg List.length h2;simp at this;omega) w;rw[<-h2] at this;exact this
 ·rw[decide_eq_false h1]
  have:=zpq (bare l) (by rw[<-h2];exact h1) (by rw[<-h2];exact hl) w;rw[<-h2] at this;unfold upS dnS;rw[<-h2];exact this
theorem zsj (n:Nat) (hl:(zD n).length<=300) (w:zA):
 zC zF 224 #[St (zD n)] w λe w'=>e=.returned (.int .i64 0)/\w'=w:=by
 obtain⟨s,hs⟩:=zzX (⟨(zD n++[]).toArray⟩:ByteArray);obtain⟨b1,b2, -⟩:=zii (zd7 n) s hs;have hzero:(zD n).length<=1\/∀hb:0<s.size,(s[0]'hb).toNat≠48:=zjz n [] s hs;have hb2:∀k (hb:k<s.size),48<=(s[k]'hb).toNat/\(s[k]'hb).toNat<=57:=λk hb=>⟨(b2 k (by simp at b1;omega) hb).1,(b2 k (by simp at b1;omega) hb).2.1⟩;have hpos:1<=(zD n).length:=by have:=zbn (n:Int);unfold digs at this;simpa using this
 rw[List.append_nil] at hs;have hlen:(zD n).length=s.size:=by rw[b1];simp
 show zC _ _ #[.string ⟨(zD n).toArray⟩] _ _;rw[hlen] at hl hzero hpos;rw[<-hs];have B2:=hid hb2;clear b1 b2 hb2 hs hlen;have h0:0<s.size:=by omega
 have h0':(0:Int)<s.size:=by omega
 have hz:((0:Int)==s.size)=false:=by rw[beq_eq_false_iff_ne];omega
 have h45:(((s[0]'h0).toNat:Int)==45)=false:=by rw[beq_eq_false_iff_ne];have:=(B2.out 0 h0).1;omega
 have hf:(((s[0]'h0).toNat:Int)==48)=true/\¬(1:Int)<s.size\/(((s[0]'h0).toNat:Int)==48)=false:=by
  by_cases h:(s[0]'h0).toNat=48
  ·left
   refine⟨by rw[h];rfl,?_⟩;rcases hzero with h1|h1
   ·omega
   ·exact absurd h (h1 h0)
  ·right;rw[beq_eq_false_iff_ne];omega
 have hwl:IntKind.i64.wrap ((s.size:Int)-0)=(s.size:Int):=by rw[Int.sub_zero];exact zI _ ⟨by omega,by omega⟩
 have hwl2:IntKind.i64.wrap (s.size:Int)=(s.size:Int):=zI _ ⟨by omega,by omega⟩;have h300:¬(300:Int)<s.size:=by omega
 clear hzero;go_enter Tryz.func224,Tryz.ntmps224;rcases hf with⟨f1,f2⟩|f1
 all_goals (
 go_wp2;go_loop [4] (λi=>∃k:Nat,k<=s.size/\i=.int .i64 k) (λi=>s.size-(zL i).toNat)
 case atStart=>exact⟨0,zR _,rfl⟩
 case round=>
  obtain⟨k,hk,rfl⟩:=hrel;by_cases hlt:k<s.size
  ·obtain⟨c1,c2⟩:=B2.out k hlt
   have d1:(48:Int)<=(s[k].toNat:Int):=by omega
   have d2:(s[k].toNat:Int)<=57:=by omega
   go_wp2;go_round
   case rel=>exact⟨k+1,by omega,by go_num⟩
   case measure=>simp[zL];omega
  ·go_wp2
   go_ret
   first|exact⟨rfl,rfl⟩|exact rfl|trivial)
theorem zhb {l:List UInt8} (h:∀c∈l,48<=c.toNat/\c.toNat<=57) {k:Nat} (hk:k<=17):val (l.take k)<100000000000000000:=by
 have h1:=zjc (l.take k) (λc hc=>h c (List.mem_of_mem_take hc));have h2:(10:Nat)^(l.take k).length<=10^17:=yF (by omega) (by simp;omega);exact Nat.lt_of_lt_of_le h1 h2
theorem zsk (n:Nat) (hl:(zD n).length<=17) (w:zA):
 zC zF 265 #[St (zD n)] w λe w'=>e=.returned (.tuple #[I n,.bool true])/\w'=w:=by
 obtain⟨l,hll⟩:=zzX (zD n);have hd:=zan n;have hvn:=zb2 n;have hpos:1<=(zD n).length:=by have:=zbn (n:Int);unfold digs at this;simpa using this
 rw[<-hll] at hd hvn hl hpos⊢;obtain⟨s,hs⟩:=zzX (⟨l.toArray⟩:ByteArray);obtain⟨b1,b2⟩:=zds l s hs;have hvt:=λk hk=>zhb (l:=l) hd (k:=k) hk;have hst:∀k (hb:k<s.size),48<=(s[k]'hb).toNat/\(s[k]'hb).toNat<=57/\val (l.take (k+1))=10*val (l.take k)+((s[k]'hb).toNat-48):=λk hb=>by
  have hk:k<l.length:=by omega
  rw[b2 k hk hb,List.take_succ_eq_append_getElem hk,zde];exact⟨(hd _ (zY hk)).1,(hd _ (zY hk)).2,rfl⟩
 have hfull:val (l.take s.size)=n:=by rw[b1,List.take_length];exact hvn
 show zC _ _ #[.string ⟨l.toArray⟩] _ _;rw[<-hs];have hs17:s.size<=17:=by omega
 have hs0:0<s.size:=by omega
 generalize hvf:(λk=>val (l.take k))=vf at*
 have hvt':∀k,k<=17->vf k<100000000000000000:=by rw[<-hvf];exact hvt
 have hst':∀k (hb:k<s.size),48<=(s[k]'hb).toNat/\(s[k]'hb).toNat<=57/\vf (k+1)=10*vf k+((s[k]'hb).toNat-48):=by rw[<-hvf];exact hst
 have hfull':vf s.size=n:=by rw[<-hvf];exact hfull
 have hv0:vf 0=0:=by rw[<-hvf];rfl
 have VT:=hid hvt';have ST:=hid hst';have HF:=hid hfull';have V0:=hid hv0;have h45:(((s[0]'hs0).toNat:Int)==45)=false:=by rw[beq_eq_false_iff_ne];have:=(hst' 0 hs0).1;omega
 clear hvt' hst' hfull' hv0 hvt hst hfull hvf b1 b2 hs hd hl hll hvn hpos;go_enter Tryz.func265,Tryz.ntmps265;go_wp2;go_loop [4,5] (λa i=>∃k:Nat,k<=s.size/\i=.int .i64 k/\a=.int .i64 (vf k:Nat)) (λ_ i=>s.size-(zL i).toNat)
 case atStart=>exact⟨0,zR _,rfl,by rw[V0.out];rfl⟩
 case round=>
  obtain⟨k,hk,rfl,rfl⟩:=hrel;by_cases hlt:k<s.size
  ·obtain⟨c1,c2,c3⟩:=ST.out k hlt
   have hv:=VT.out k (by omega);generalize vf k=v at*
   have C3:=hid c3;clear c3;have d1:(48:Int)<=(s[k].toNat:Int):=by omega
   have d2:(s[k].toNat:Int)<=57:=by omega
   have d3:((s[k].toNat:Int) !=45)=true:=by simp;omega
   go_wp2;go_round
   case rel=>exact⟨k+1,by omega,by go_num,by rw[C3.out];show Value.int .i64 _=Value.int .i64 _;congr 1;omega⟩
   case measure=>simp[zL];omega
  ·have hk':k=s.size:=by omega
   have HK:=hid hk';clear hk';go_wp2;go_ret2;exact⟨by rw[HK.out,HF.out];rfl,rfl⟩
theorem zuh (l:List UInt8):okS l↔zcb (upS l)/\¬(l.head? =some 45/\upS l=[48])/\((47:UInt8)∉bare l\/(zcb (dnS l)/\dnS l≠[48]/\dnS l≠[49]/\Nat.gcd (val (upS l)) (val (dnS l))=1)):=by
 unfold okS hasS;constructor
 ·rintro⟨h1,h2,h3⟩
  refine⟨h1,h2,?_⟩;by_cases h:(47:UInt8)∈bare l
  ·exact .inr (h3 h)
  ·exact .inl h
 ·rintro⟨h1,h2,h3⟩
  refine⟨h1,h2,λh=>?_⟩;rcases h3 with h3|h3
  ·exact absurd h h3
  ·exact h3
theorem zeb (l:List UInt8) (s:ByteArray) (hs:s=⟨l.toArray⟩) (k:List UInt8):(s.toList==k)=decide (l=k):=by
 rw[hs,ByteArray.toList_eq];by_cases h:l=k
 ·subst h;simp
 ·rw[decide_eq_false h];simpa using h
theorem zsl (x u v:ByteArray) (m sl b1 b2 z1 z2 z3:Bool) (g:Nat) (Q:Prop) (hu:u.size<=300) (hv:v.size<=300)
 (HQ:Hid (Q↔b1=true/\¬(m=true/\z3=true)/\(sl=false\/(b2=true/\z1=false/\z2=false/\g=1))))
 (e1:(v.toList==[48])=z1) (e2:(v.toList==[49])=z2) (e3:(u.toList==[48])=z3)
 (SP:Hid (∀W:zA,qJ 205 #[.string x] W (.tuple #[.bool m,.string u,.string v,.bool sl])))
 (D1:Hid (∀W:zA,zC zF 206 #[.string u] W λe w'=>e=.returned (.bool b1)/\w'=W))
 (D2:Hid (∀W:zA,zC zF 206 #[.string v] W λe w'=>e=.returned (.bool b2)/\w'=W))
 (SG:Hid (b1=true->b2=true->u.size<=9->v.size<=9->∃n d:Nat,(∀W:zA,zC zF 208 #[.string u] W λe w'=>e=.returned (I n)/\w'=W)/\(∀W:zA,zC zF 208 #[.string v] W λe w'=>e=.returned (I d)/\w'=W)/\
   ∀W:zA,qJ 207 #[I n,I d] W (I g)))
 (BG:Hid (b1=true->b2=true->∃t:ByteArray,(t.toList==[49])=decide (g=1)/\qK 209 #[.string u,.string v] (.tuple #[.string t,.int .i64 0])))
 (w:zA) (HW:Hid (Wd w)):
 zC zF 139 #[.string x] w λe w'=>∃r:Int,e=.returned (.int .i64 r)/\(r=0↔Q)/\zB w.heap.size w w':=by
 have u300:¬(300:Int)<u.size:=by omega
 have v300:¬(300:Int)<v.size:=by omega
 go_enter Tryz.func139,Tryz.ntmps139;go_wp21;refine zzM (SP.out w) λw1 hB=>?_;go_wp21;refine zzM (D1.out w1) λw2 hw=>?_;have hw2:=hw.symm;subst hw2;clear hw;cases b1
 ·have HN:=hid (by rw[HQ.out];simp:¬Q)
  go_wp21
  all_goals first|exact(zzU ‹_›).elim|skip
  go_ret;exact⟨11,rfl,⟨λh=>by simp at h,λh=>absurd h HN.out⟩,hB⟩
 ·cases sl
  ·cases m
   ·have HN:=hid (by rw[HQ.out];simp:Q)
    go_wp21
    all_goals first|exact(zzU ‹_›).elim|skip
    go_ret;exact⟨0,rfl,⟨λ_=>HN.out,λ_=>rfl⟩,hB⟩
   ·cases z3
    ·have HN:=hid (by rw[HQ.out];simp:Q)
     go_wp21
     all_goals first|exact(zzU ‹_›).elim|skip
     go_ret;exact⟨0,rfl,⟨λ_=>HN.out,λ_=>rfl⟩,hB⟩
    ·have HN:=hid (by rw[HQ.out];simp:¬Q)
     go_wp21
     all_goals first|exact(zzU ‹_›).elim|skip
     go_ret;exact⟨11,rfl,⟨λh=>by simp at h,λh=>absurd h HN.out⟩,hB⟩
  ·go_wp21
   all_goals first|exact(zzU ‹_›).elim|skip
   refine zzM (D2.out _) λw2 hw=>?_;have hw2:=hw.symm;subst hw2;clear hw;cases b2
   ·have HN:=hid (by rw[HQ.out];simp:¬Q)
    go_wp21
    all_goals first|exact(zzU ‹_›).elim|skip
    go_ret;exact⟨11,rfl,⟨λh=>by simp at h,λh=>absurd h HN.out⟩,hB⟩
   ·cases z1
    ·cases z2
     ·cases m
      ·by_cases h9:u.size<=9
       ·by_cases k9:v.size<=9
        ·have hu9:(u.size:Int)<=9:=by omega
         have hv9:(v.size:Int)<=9:=by omega
         obtain⟨n,d,s1,s2,s3⟩:=SG.out (by simp) (by simp) (by omega) (by omega);have S1:=hid s1;have S2:=hid s2;have S3:=hid s3;clear s1 s2 s3;go_wp21
         all_goals first|exact(zzU ‹_›).elim|skip
         refine zzM (S1.out _) λw2 hw=>?_;have hw2:=hw.symm;subst hw2;clear hw;go_wp21;refine zzM (S2.out _) λw2 hw=>?_;have hw2:=hw.symm;subst hw2;clear hw;go_wp21;refine zzM (S3.out _) λw2 hb2=>?_;have hB:=hB.trans (hb2.mono hB.size);clear hb2;by_cases hg:g=1
         ·have HN:=hid (by rw[HQ.out];simp[hg]:Q)
          have hgb:((g:Int) !=1)=false:=by subst hg;rfl
          clear hg;go_wp21;go_ret;exact⟨0,rfl,⟨λ_=>HN.out,λ_=>rfl⟩,hB⟩
         ·have HN:=hid (by rw[HQ.out];simp[hg]:¬Q)
          have hgb:((g:Int) !=1)=true:=by simp;omega
          clear hg;go_wp21;go_ret;exact⟨11,rfl,⟨λh=>by simp at h,λh=>absurd h HN.out⟩,hB⟩
        ·have hu9:(u.size:Int)<=9:=by omega
         have hv9:¬(v.size:Int)<=9:=by omega
         obtain⟨t,t1,t2⟩:=BG.out (by simp) (by simp);have T2:=hid (t2 w1 (HW.out.below hB));clear t2;go_wp21
         all_goals first|exact(zzU ‹_›).elim|skip
         refine zzM T2.out λw2 hb2=>?_;have hB:=hB.trans (hb2.mono hB.size);clear hb2 T2;by_cases hg:g=1
         ·have HN:=hid (by rw[HQ.out];simp[hg]:Q)
          rw[decide_eq_true hg] at t1;clear hg;go_wp21;go_ret;exact⟨0,rfl,⟨λ_=>HN.out,λ_=>rfl⟩,hB⟩
         ·have HN:=hid (by rw[HQ.out];simp[hg]:¬Q)
          rw[decide_eq_false hg] at t1;clear hg;go_wp21;go_ret;exact⟨11,rfl,⟨λh=>by simp at h,λh=>absurd h HN.out⟩,hB⟩
       ·have hu9:¬(u.size:Int)<=9:=by omega
        obtain⟨t,t1,t2⟩:=BG.out (by simp) (by simp);have T2:=hid (t2 w1 (HW.out.below hB));clear t2;go_wp21
        all_goals first|exact(zzU ‹_›).elim|skip
        refine zzM T2.out λw2 hb2=>?_;have hB:=hB.trans (hb2.mono hB.size);clear hb2 T2;by_cases hg:g=1
        ·have HN:=hid (by rw[HQ.out];simp[hg]:Q)
         rw[decide_eq_true hg] at t1;clear hg;go_wp21;go_ret;exact⟨0,rfl,⟨λ_=>HN.out,λ_=>rfl⟩,hB⟩
        ·have HN:=hid (by rw[HQ.out];simp[hg]:¬Q)
         rw[decide_eq_false hg] at t1;clear hg;go_wp21;go_ret;exact⟨11,rfl,⟨λh=>by simp at h,λh=>absurd h HN.out⟩,hB⟩
      ·cases z3
       ·by_cases h9:u.size<=9
        ·by_cases k9:v.size<=9
         ·have hu9:(u.size:Int)<=9:=by omega
          have hv9:(v.size:Int)<=9:=by omega
          obtain⟨n,d,s1,s2,s3⟩:=SG.out (by simp) (by simp) (by omega) (by omega);have S1:=hid s1;have S2:=hid s2;have S3:=hid s3;clear s1 s2 s3;go_wp21
          all_goals first|exact(zzU ‹_›).elim|skip
          refine zzM (S1.out _) λw2 hw=>?_;have hw2:=hw.symm;subst hw2;clear hw;go_wp21;refine zzM (S2.out _) λw2 hw=>?_;have hw2:=hw.symm;subst hw2;clear hw;go_wp21;refine zzM (S3.out _) λw2 hb2=>?_;have hB:=hB.trans (hb2.mono hB.size);clear hb2;by_cases hg:g=1
          ·have HN:=hid (by rw[HQ.out];simp[hg]:Q)
           have hgb:((g:Int) !=1)=false:=by subst hg;rfl
           clear hg;go_wp21;go_ret;exact⟨0,rfl,⟨λ_=>HN.out,λ_=>rfl⟩,hB⟩
          ·have HN:=hid (by rw[HQ.out];simp[hg]:¬Q)
           have hgb:((g:Int) !=1)=true:=by simp;omega
           clear hg;go_wp21;go_ret;exact⟨11,rfl,⟨λh=>by simp at h,λh=>absurd h HN.out⟩,hB⟩
         ·have hu9:(u.size:Int)<=9:=by omega
          have hv9:¬(v.size:Int)<=9:=by omega
          obtain⟨t,t1,t2⟩:=BG.out (by simp) (by simp);have T2:=hid (t2 w1 (HW.out.below hB));clear t2;go_wp21
          all_goals first|exact(zzU ‹_›).elim|skip
          refine zzM T2.out λw2 hb2=>?_;have hB:=hB.trans (hb2.mono hB.size);clear hb2 T2;by_cases hg:g=1
          ·have HN:=hid (by rw[HQ.out];simp[hg]:Q)
           rw[decide_eq_true hg] at t1;clear hg;go_wp21;go_ret;exact⟨0,rfl,⟨λ_=>HN.out,λ_=>rfl⟩,hB⟩
          ·have HN:=hid (by rw[HQ.out];simp[hg]:¬Q)
           rw[decide_eq_false hg] at t1;clear hg;go_wp21;go_ret;exact⟨11,rfl,⟨λh=>by simp at h,λh=>absurd h HN.out⟩,hB⟩
        ·have hu9:¬(u.size:Int)<=9:=by omega
         obtain⟨t,t1,t2⟩:=BG.out (by simp) (by simp);have T2:=hid (t2 w1 (HW.out.below hB));clear t2;go_wp21
         all_goals first|exact(zzU ‹_›).elim|skip
         refine zzM T2.out λw2 hb2=>?_;have hB:=hB.trans (hb2.mono hB.size);clear hb2 T2;by_cases hg:g=1
         ·have HN:=hid (by rw[HQ.out];simp[hg]:Q)
          rw[decide_eq_true hg] at t1;clear hg;go_wp21;go_ret;exact⟨0,rfl,⟨λ_=>HN.out,λ_=>rfl⟩,hB⟩
         ·have HN:=hid (by rw[HQ.out];simp[hg]:¬Q)
          rw[decide_eq_false hg] at t1;clear hg;go_wp21;go_ret;exact⟨11,rfl,⟨λh=>by simp at h,λh=>absurd h HN.out⟩,hB⟩
       ·have HN:=hid (by rw[HQ.out];simp:¬Q)
        go_wp21
        all_goals first|exact(zzU ‹_›).elim|skip
        go_ret;exact⟨11,rfl,⟨λh=>by simp at h,λh=>absurd h HN.out⟩,hB⟩
     ·have HN:=hid (by rw[HQ.out];simp:¬Q)
      go_wp21
      all_goals first|exact(zzU ‹_›).elim|skip
      go_ret;exact⟨11,rfl,⟨λh=>by simp at h,λh=>absurd h HN.out⟩,hB⟩
    ·have HN:=hid (by rw[HQ.out];simp:¬Q)
     go_wp21
     all_goals first|exact(zzU ‹_›).elim|skip
     go_ret;exact⟨11,rfl,⟨λh=>by simp at h,λh=>absurd h HN.out⟩,hB⟩
theorem zta (g:Nat):zD g=[49]↔g=1:=by
 have e:zD 1=[49]:=by rw[zae (by omega)];rfl
 constructor
 ·intro h;exact zfk (h.trans e.symm)
 ·rintro rfl;exact e
end Go.Proofs.YtfoodcpnnmonhaaGreatDoor
namespace Go.Proofs.YtfoodcpnnmonhaaGreatDoor
open Go.RowKit Go.Shelf Lib Str Limb Geo
attribute [local go_sem] Oper.semAt_some
def BoolP (w:zA) (G:Prop) (e:Ending) (w':zA):Prop:=∃b:Bool,e=.returned (.bool b)/\(b=false↔G)/\zB w.heap.size w w'
theorem BoolP.no {w w':zA} {G:Prop} (h:¬G) (hb:qL w w'):BoolP w G (.returned (.bool true)) w':=⟨true,rfl,⟨λk=>by simp at k,λk=>absurd k h⟩,hb⟩
theorem BoolP.yes {w w':zA} {G:Prop} (h:G) (hb:qL w w'):BoolP w G (.returned (.bool false)) w':=⟨false,rfl,⟨λ_=>h,λ_=>rfl⟩,hb⟩
def IdxP (w:zA) (n:Nat) (G:Nat->Prop) (e:Ending) (w':zA):Prop:=∃k:Int,e=.returned (.int .i64 k)/\((k= -1/\∀i,i<n->G i)\/(0<=k/\∃i,i<n/\¬G i))/\zB w.heap.size w w'
theorem IdxP.hit {w w':zA} {n:Nat} {G:Nat->Prop} {k:Nat} (hk:k<n) (h:¬G k) (hb:qL w w'):IdxP w n G (.returned (.int .i64 (k:Int))) w':=⟨k,rfl,.inr ⟨by omega,k,hk,h⟩,hb⟩
theorem IdxP.none {w w':zA} {n:Nat} {G:Nat->Prop} (h:∀i,i<n->G i) (hb:qL w w'):IdxP w n G (.returned (.int .i64 (-1))) w':=⟨-1,rfl,.inl ⟨rfl,h⟩,hb⟩
end Go.Proofs.YtfoodcpnnmonhaaGreatDoor
namespace Go.Proofs.YtfoodcpnnmonhaaGreatDoor.Geo
def onR (a b p:Pt):Prop:=cmpR p.x a.x*cmpR p.x b.x<=0/\cmpR p.y a.y*cmpR p.y b.y<=0
instance (a b p:Pt):Decidable (onR a b p):=by unfold onR;infer_instance
def cr (a b c:Pt):Rat:=(b.x-a.x)*(c.y-a.y)-(b.y-a.y)*(c.x-a.x)
def le (p q:Pt):Prop:=ordP p q<=0
theorem le_trans {p q r:Pt} (h:le p q) (k:le q r):le p r:=by unfold le at*;have:=zas p q;have:=zas q r;have:=zas p r;grind
theorem le_antisymm {p q:Pt} (h:le p q) (k:le q p):p=q:=by unfold le at*;have:=zas p q;have:=zas q p;grind
theorem le_total (p q:Pt):le p q\/le q p:=by unfold le;have:=zas p q;have:=zas q p;grind
end Go.Proofs.YtfoodcpnnmonhaaGreatDoor.Geo
namespace Go.Proofs.YtfoodcpnnmonhaaGreatDoor.Geo
end Go.Proofs.YtfoodcpnnmonhaaGreatDoor.Geo
namespace Go.Proofs.YtfoodcpnnmonhaaGreatDoor.Geo
end Go.Proofs.YtfoodcpnnmonhaaGreatDoor.Geo
namespace Go.Proofs.YtfoodcpnnmonhaaGreatDoor
open Go.RowKit Go.Shelf Lib Str Limb Geo
end Go.Proofs.YtfoodcpnnmonhaaGreatDoor
namespace Go.Proofs.YtfoodcpnnmonhaaGreatDoor
open Go.RowKit Go.Shelf Lib Str Limb Geo
attribute [local go_sem] Oper.semAt_some
end Go.Proofs.YtfoodcpnnmonhaaGreatDoor
namespace Go.Proofs.YtfoodcpnnmonhaaGreatDoor
open Go.RowKit Go.Shelf Lib Str Limb
attribute [local go_sem] Oper.semAt_some
abbrev BolQ (w:zA) (b:Bool) (e:Ending) (w':zA):Prop:=e=.returned (.bool b)/\zB w.heap.size w w'
theorem z6w (x y r:ByteArray) (is:Bool) (A:Nat) (xx:ByteArray)
 (RT:Hid (qK 170 #[.string xx,.string y] (.tuple #[.string r,.bool is,.int .i64 0])))
 (w:zA) (HW:Hid (Wd w)) (HA:Hid (w.cell? ⟨A,1,none⟩=some (.string xx))):
 zC zF 169 #[.agg #[.string x,.string y],.pointer (some ⟨A,0,none⟩)] w (BolQ w is):=by
 obtain⟨W0,hW0⟩:=zzX (w.alloc (.cells #[.string x,.string y] 49));have K0:=hid (show BxT w x y W0 by rw[hW0];exact BxT.start w x y);obtain⟨c0,c1⟩:=K0.out.cx;have a1:=(zac (show qL w W0 from K0.out.bel)).cell HA.out;rw[hW0] at c0 c1 a1;have H9:=hid hW0.symm;clear hW0;go_enter Tryz.func169,Tryz.ntmps169;go_wp21;rw[H9.out];clear c0 c1 a1 H9;refine zzM (RT.out W0 (HW.out.below K0.out.bel)) λw1 hb1=>?_;have K1:=hid (K0.out.next hb1);clear hb1 K0 RT;cases is
 ·go_wp21
  all_goals
   go_ret;exact⟨rfl,K1.out.bel⟩
 ·go_wp21
  all_goals
   go_ret;exact⟨rfl,K1.out.bel⟩
def RowTm (p:Option Addr) (n:Nat) (X Y:Nat->ByteArray) (W:zA):Prop:=∀i,i<n->∃b off,p=some ⟨b,off,none⟩/\W.cell? ⟨b,off+i*2,none⟩=some (.string (X i))/\W.cell? ⟨b,off+i*2+1,none⟩=some (.string (Y i))
theorem RowTm.keep {p:Option Addr} {n:Nat} {X Y:Nat->ByteArray} {W W':zA} (h:RowTm p n X Y W) (hc:CellsKept W W'):RowTm p n X Y W':=λi hi=>let ⟨b,off,e,h1,h2⟩:=h i hi;⟨b,off,e,hc.cell h1,hc.cell h2⟩
theorem z7r (p:Option Addr) (cap n:Nat) (X Y:Nat->ByteArray) (hl:n<=5000) (A:Nat) (C:zA->Prop) (hC:∀W W',C W->qL W W'->C W')
 (F:Hid (∀i,i<n->∀W:zA,Wd W->C W->zC zF 169 #[.agg #[.string (X i),.string (Y i)],.pointer (some ⟨A,0,none⟩)] W (BolQ W false)))
 (w:zA) (HW:Hid (Wd w)) (HC:Hid (C w)) (HP:Hid (RowTm p n X Y w)):
 qJ 235 #[.slice p n cap,.func (.func 169) #[] #[.pointer (some ⟨A,0,none⟩)]] w (.int .i64 (-1)):=by
 have HCC:=hid hC;clear hC;go_enter Tryz.func235,Tryz.ntmps235;go_wp2;go_loopw [8] (λi wr=>∃(k:Nat),k<=n/\i=.int .i64 (k:Int)/\Hid (qL w wr))
  (λi _=>n-(zL i).toNat)
 case atStart=>exact⟨0,zR _,rfl,zM _ _⟩
 case round=>
  obtain⟨k,hk,rfl,hB⟩:=hrel;by_cases hlt:k<n
  ·obtain⟨b,off,rfl,c0,c1⟩:=(HP.out.keep (zac hB.out)) k hlt
   have HF:=hid (F.out k hlt wr (HW.out.below hB.out) (HCC.out _ _ HC.out hB.out));generalize X k=x at*
   generalize Y k=y at*
   go_wp21;refine zzM HF.out λw2 hb2=>?_;have hB2:=hid (hB.out.trans (hb2.mono hB.out.size));clear hb2 HF;go_wp21;go_roundw
   case rel=>exact⟨k+1,by omega,by go_num,hB2⟩
   case measure=>simp[zL];omega
  ·have hkn:k=n:=by omega
   go_wp21;go_ret;exact⟨rfl,hB.out⟩
theorem z7s (p:Option Addr) (cap n A:Nat) (w:zA)
 (F:Hid (qJ 235 #[.slice p n cap,.func (.func 169) #[] #[.pointer (some ⟨A,0,none⟩)]] w (.int .i64 (-1)))):
 zC zF 168 #[.slice p n cap,.func (.func 169) #[] #[.pointer (some ⟨A,0,none⟩)]] w (BolQ w false):=by
 go_enter Tryz.func168,Tryz.ntmps168;go_wp21;refine zzM F.out λw1 hB=>?_;go_wp21;go_ret;exact⟨rfl,hB⟩
end Go.Proofs.YtfoodcpnnmonhaaGreatDoor
