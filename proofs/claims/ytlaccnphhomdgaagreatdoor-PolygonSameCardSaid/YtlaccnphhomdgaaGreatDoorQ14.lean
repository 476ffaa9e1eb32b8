/- From a row's conditions to what the walks ask: the listed variables' cells; a point among the arguments. -/
import Derived.Test.YtlaccnphhomdgaaGreatDoorRows
import Derived.Test.YtlaccnphhomdgaaGreatDoorQ13
import Derived.Test.YtlaccnphhomdgaaGreatDoorQ11
import Derived.Test.YtlaccnphhomdgaaGreatDoorQ12
import Derived.ProofKit
import Derived.Lib.LaidU8
import Derived.HandedShaped
import Derived.Lay
import Derived.Shelf.Vars
import Derived.Carry
import Derived.OwnWalkIn
set_option maxRecDepth 100000
set_option maxHeartbeats 8000000
open Go renaming World → zA
open Go.Proofs.Tryz renaming prog → zF
open Nat renaming le_refl → zN
namespace Go.Proofs.YtlaccnphhomdgaaGreatDoor
open Go.RowKit Go.Shelf Lib Str Limb
open Go.ChangeShapes Go.WideShapes Go.ChangeAt
theorem zf9 {H:Type} {enc:TypeId×Value->H} {a:Assume} {C:Checked} {os:Os} {f:FuncId} {fn:Func} {s:ChangeSpec} {conds:List PathCond} {apart fresh handsOn again:Bool} {X:zA->Array Value->Prop}
 (hX:∀(w w':zA) (args:Array Value),w.heap=w'.heap->X w args->X w' args)
 (own:ownKnob C.prog.godebug=none) (started:os.Started) (noInit:C.prog.inits.idxOf? f=none) (hfn:C.prog.funcs[f]? =some fn)
 (witness:∃(w:zA) (tape:Tape) (i:Input),w.os=os/\(w.forCall tape i).Shaped C.prog/\i.vars=[]/\Input.okWide C.prog (w.forCall tape i) .any w.heap.size f i/\
   ((s.pre enc C.prog fn conds apart (w.forCall tape i).memory i.args/\X (w.forCall tape i).memory i.args)/\sizedMet enc C.prog fn (OpenSpec.ofChange s) apart (w.forCall tape i).memory i.args)/\a.holds C.prog (lone (Frame.enter C.prog f i.args .normal) [] (w.forCall tape i)))
 (contract:∀(W:zA) (args:Array Value) (ds gs:List (DataW H)) (before:List MemPlace) (base:Nat),
   (∀(j:Nat) t v,fn.params[j]? =some t->args[j]? =some v->Value.okWide C.prog W .any base t v)->
   DataW.Whole enc C.prog fn.params.toList s.vars apart W args.toList ds gs before->X W args->W.ShapedOpen C.prog->
   Calls C.prog f args W λe W'=>∃v,e=.returned v/\s.post enc C.prog fn apart fresh handsOn again W args v W'):
 ReturnsInHanded a C os f .any (λw args=>(s.pre enc C.prog fn conds apart w args/\X w args)/\sizedMet enc C.prog fn (OpenSpec.ofChange s) apart w args) (s.post enc C.prog fn apart fresh handsOn again):=by
 refine returnsInHanded_of_calls own started noInit witness ?_
 rintro w tape i _ hsh _ ⟨_,_,_,fn',hfn',_,_,_,_,hval⟩ ⟨⟨⟨ds,gs,before,hw,_⟩,hx⟩,_⟩ _
 obtain rfl:fn'=fn:=Option.some.inj (hfn'.symm.trans hfn)
 refine(contract (w.forCall tape i) i.args ds gs before w.heap.size hval (DataW.Whole.of_heap (w':=w.forCall tape i) (by rfl) hw) (hX _ _ _ (by rfl) hx) hsh).mono ?_
 rintro e W' ⟨v,rfl,hp⟩
 exact ChangeSpec.post_blind hp
theorem zp7 {H:Type} {enc:TypeId×Value->H} {P:Program} {w:zA} {base:Nat} {sp:Nat->Bool} {held:Bool} {fuel:Nat} {t e:TypeId} {n:Nat} {cs:List Value} {ss:List (List UInt8)} {p:List MemPlace}
 (ht:P.underlying t=some (.array n e)) (he:P.underlying e=some .string) (hce:P.cellsOf e=1) (hct:P.cellsOf t=n) (hsl:ss.length=n)
 (h:DataW.trod enc P w base sp held fuel t cs=some (.agg (ss.map λs=>.lit (.string s)),p)):cs=ss.map λs=>Value.string ⟨s.toArray⟩:=by
 have hcl:cs.length=n:=by
  cases fuel with
  |zero=>simp[DataW.trod] at h
  |succ fuel=>
   have h0:=h
   simp only[DataW.trod,ht,hce,hct,Nat.mul_one] at h0
   split at h0
   ·rename_i hl;exact hl
   ·cases h0
 apply List.ext_getElem?
 intro i
 by_cases hi:i<n
 ·obtain⟨fu,d,q,hd,htr⟩:=array_elem ht h i hi
  rw[hce] at htr
  obtain⟨s,hs,hx,_⟩:=DataW.trod_string he htr
  simp only[Prod.mk.injEq] at hx
  obtain⟨rfl,_⟩:=hx
  have h1:cs[i]? =some (.string s):=by
   have:=congrArg (·[0]?) hs
   simpa [List.getElem?_take,List.getElem?_drop] using this
  rw[List.getElem?_map,Option.map_eq_some_iff] at hd
  obtain⟨l,hl,e⟩:=hd
  simp only[DataW.lit.injEq,Lit.string.injEq] at e
  rw[h1,List.getElem?_map,hl,e]
  rfl
 ·rw[List.getElem?_eq_none (by omega),List.getElem?_eq_none (by simp;omega)]
theorem z0v {l:List (String×DataW Unit)} {W:zA} (hL:laidMet zF l W) (hm:("internal/strconv.uint64pow10",Rows.laid_internal_strconv_uint64pow10)∈l) (hs:W.ShapedOpen zF):Wd W:=by
 obtain⟨g,t,cs,fuel,p,hg,ht,hv,hd⟩:=Lib.laidMet.reads hL hm
 obtain rfl:g=3:=Option.some.inj (hg.symm.trans (by kernel_rfl))
 obtain rfl:t=272:=Option.some.inj (ht.symm.trans (by kernel_rfl))
 have e:(Rows.laid_internal_strconv_uint64pow10:DataW Unit)=Lib.tabData .u64 Lib.pow10Tab:=by kernel_rfl
 rw[e] at hd
 have hc:=Lib.cells_of_tab (n:=20) Tryz.underlying272 Tryz.underlying220 (by kernel_rfl) (by kernel_rfl) hd
 refine⟨?_,Proofs.cell_of_shapedOpen_int (t:=3) (zero:= #[.int .i64 0]) hs (of_decide_eq_true (by kernel_rfl)) (by kernel_rfl) rfl (by kernel_rfl) (by kernel_rfl) Tryz.underlying3⟩
 unfold Lib.TabIs
 rw[hv,<-hc]
theorem zzj:prV.toList=([[50],[51],[53],[55],[49,49],[49,51],[49,55],[49,57],[50,51],[50,57],[51,49],[51,55],[52,49],[52,51],[52,55],[53,51],[53,57],[54,49],[54,55],[55,49],[55,51],[55,57],[56,51],[56,57],[57,55]]:List (List UInt8)).map λs=>Value.string ⟨s.toArray⟩:=by kernel_rfl
theorem z0w {l:List (String×DataW Unit)} {W:zA} (hL:laidMet zF l W) (hm:("kingpost/root.primes",Rows.laid_kingpost_root_primes)∈l):Pw W:=by
 obtain⟨g,t,cs,fuel,p,hg,ht,hv,hd⟩:=Lib.laidMet.reads hL hm
 obtain rfl:g=0:=Option.some.inj (hg.symm.trans (by kernel_rfl))
 obtain rfl:t=250:=Option.some.inj (ht.symm.trans (by kernel_rfl))
 have e:(Rows.laid_kingpost_root_primes:DataW Unit)=.agg (([[50],[51],[53],[55],[49,49],[49,51],[49,55],[49,57],[50,51],[50,57],[51,49],[51,55],[52,49],[52,51],[52,55],[53,51],[53,57],[54,49],[54,55],[55,49],[55,51],[55,57],[56,51],[56,57],[57,55]]:List (List UInt8)).map λs=>.lit (.string s)):=by kernel_rfl
 rw[e] at hd
 have hc:=zp7 (n:=25) Tryz.underlying250 Tryz.underlying9 (by kernel_rfl) (by kernel_rfl) (by decide) hd
 obtain rfl:cs=prV:=Array.toList_inj.1 (hc.trans zzj.symm)
 exact⟨hv⟩
theorem zrj:ownKnob Tryz.prog.godebug=none:=by kernel_rfl
theorem zgh:laidOutB zF=true:=by kernel_rfl
end Go.Proofs.YtlaccnphhomdgaaGreatDoor
namespace Go.Proofs.YtlaccnphhomdgaaGreatDoor.Geo
theorem zmz {a b:Rat} (ha:0<a) (hb:0<b):0<a*b:=Rat.mul_pos ha hb
theorem zzl {a b:Rat} (ha:0<a) (hb:b<0):a*b<0:=by
 have:=Rat.mul_pos ha (show 0< -b by grind);grind
theorem zw9 {a b:Rat} (ha:a<0) (hb:0<b):a*b<0:=by
 have:=Rat.mul_pos (show 0< -a by grind) hb;grind
theorem z1x {a b:Rat} (ha:a<0) (hb:b<0):0<a*b:=by
 have:=Rat.mul_pos (show 0< -a by grind) (show 0< -b by grind);grind
theorem zdq (a b:Rat):cmpR a b=cmpR (a-b) 0:=zmx _ _ _ _ (by grind)
theorem zrl (a b:Rat):cmpR (a*b) 0=cmpR a 0*cmpR b 0:=by
 rcases zaw a 0 with⟨h1,e1⟩|⟨h1,e1⟩|⟨h1,e1⟩<;>rcases zaw b 0 with⟨h2,e2⟩|⟨h2,e2⟩|⟨h2,e2⟩<;>rw[e1,e2]
 ·have:=z1x h1 h2;have:=zaw (a*b) 0;grind
 ·subst h2;rw[Rat.mul_zero,zeu];rfl
 ·have:=zw9 h1 h2;have:=zaw (a*b) 0;grind
 ·subst h1;rw[Rat.zero_mul,zeu];rfl
 ·subst h1;rw[Rat.zero_mul,zeu];rfl
 ·subst h1;rw[Rat.zero_mul,zeu];rfl
 ·have:=zzl h1 h2;have:=zaw (a*b) 0;grind
 ·subst h2;rw[Rat.mul_zero,zeu];rfl
 ·have:=zmz h1 h2;have:=zaw (a*b) 0;grind
theorem zcl (a:Rat):cmpR a 0= -1\/cmpR a 0=0\/cmpR a 0=1:=by have:=zaw a 0;grind
def onR (a b p:Pt):Prop:=cmpR p.x a.x*cmpR p.x b.x<=0/\cmpR p.y a.y*cmpR p.y b.y<=0
instance (a b p:Pt):Decidable (onR a b p):=by unfold onR;infer_instance
def cr (a b c:Pt):Rat:=(b.x-a.x)*(c.y-a.y)-(b.y-a.y)*(c.x-a.x)
theorem zgk (a b c:Pt):turn a b c=cmpR (cr a b c) 0:=zdq _ _
theorem zgy {a b c:Pt}:turn a b c=0↔cr a b c=0:=by rw[zgk,zgv]
theorem z0x {u v R S:Int} (hu:u= -1\/u=0\/u=1) (hv:v= -1\/v=0\/v=1) (hR:R= -1\/R=0\/R=1) (hS:S= -1\/S=0\/S=1) (h:u*S=v*R) (hRS:R≠0\/S≠0) (hle:R*S<=0):u*v<=0:=by
 rcases hu with rfl|rfl|rfl<;>rcases hv with rfl|rfl|rfl<;>rcases hR with rfl|rfl|rfl<;>rcases hS with rfl|rfl|rfl<;>omega
theorem z0y {u v R S:Int} (hu:u= -1\/u=0\/u=1) (hv:v= -1\/v=0\/v=1) (hR:R= -1\/R=0\/R=1) (hS:S= -1\/S=0\/S=1) (h:u*S=v*R) (hle:u*v<=0) (h0:0<R*S):u=0/\v=0:=by
 rcases hu with rfl|rfl|rfl<;>rcases hv with rfl|rfl|rfl<;>rcases hR with rfl|rfl|rfl<;>rcases hS with rfl|rfl|rfl<;>omega
theorem zmc {a b c d:Pt} (h0:turn a b c=0) (hq:turn c d a≠0\/turn c d b≠0) (h:turn c d a*turn c d b<=0):onR a b c:=by
 rw[zgy] at h0
 rw[zgk,zgk] at h hq
 have e1:(c.x-a.x)*cr c d b=(c.x-b.x)*cr c d a:=by unfold cr at*;grind
 have e2:(c.y-a.y)*cr c d b=(c.y-b.y)*cr c d a:=by unfold cr at*;grind
 have f1:=congrArg (cmpR · 0) e1
 have f2:=congrArg (cmpR · 0) e2
 simp only[zrl] at f1 f2
 unfold onR
 rw[zdq c.x,zdq c.x,zdq c.y,zdq c.y]
 exact⟨z0x (zcl _) (zcl _) (zcl _) (zcl _) f1 hq h,z0x (zcl _) (zcl _) (zcl _) (zcl _) f2 hq h⟩
theorem zgr {a b c d:Pt} (h0:turn a b c=0) (h:onR a b c):turn c d a*turn c d b<=0:=by
 rw[zgy] at h0
 rw[zgk,zgk]
 have e1:(c.x-a.x)*cr c d b=(c.x-b.x)*cr c d a:=by unfold cr at*;grind
 have e2:(c.y-a.y)*cr c d b=(c.y-b.y)*cr c d a:=by unfold cr at*;grind
 have f1:=congrArg (cmpR · 0) e1
 have f2:=congrArg (cmpR · 0) e2
 simp only[zrl] at f1 f2
 unfold onR at h
 rw[zdq c.x,zdq c.x,zdq c.y,zdq c.y] at h
 rcases Int.lt_or_le 0 (cmpR (cr c d a) 0*cmpR (cr c d b) 0) with hp|hp
 ·obtain⟨g1,g2⟩:=z0y (zcl _) (zcl _) (zcl _) (zcl _) f1 h.1 hp
  obtain⟨g3,g4⟩:=z0y (zcl _) (zcl _) (zcl _) (zcl _) f2 h.2 hp
  rw[zgv] at g1 g2 g3 g4
  have:cr c d a=0:=by unfold cr;grind
  rw[this,zeu] at hp
  omega
 ·exact hp
theorem zrm {a b c d:Pt} (h0:turn a b c=0) (h:turn a b d≠0):turn c d a≠0\/turn c d b≠0:=by
 rcases Int.decEq (turn c d a) 0 with h1|h1
 ·exact .inl h1
 ·refine .inr λh2=>h ?_
  rw[zgy] at*
  unfold cr at*
  grind
def uniq (P:Pt->Bool):List Pt->List Pt->List Pt
 |acc,[]=>acc
 |acc,x::r=>uniq P (if P x&&!acc.contains x then acc++[x] else acc) r
theorem zla (P:Pt->Bool):∀(l acc:List Pt),acc.Nodup->(uniq P acc l).Nodup/\∀y,y∈uniq P acc l↔y∈acc\/(y∈l/\P y=true)
 |[],acc,h=>⟨h,λy=>by simp[uniq]⟩
 |x::r,acc,h=>by
  rw[uniq]
  by_cases hp:(P x&&!acc.contains x)=true
  ·rw[if_pos hp]
   simp only[Bool.and_eq_true,Bool.not_eq_true',List.contains_eq_mem,decide_eq_false_iff_not] at hp
   obtain⟨h1,h2⟩:=zla P r (acc++[x]) (by rw[List.nodup_append];exact⟨h,by simp,λa ha b hb=>by simp at hb;subst hb;exact λe=>hp.2 (e▸ha)⟩)
   refine⟨h1,λy=>?_⟩
   rw[h2]
   simp only[List.mem_append,List.mem_cons,List.not_mem_nil,or_false]
   constructor
   ·rintro((h|rfl)|h)
    ·exact .inl h
    ·exact .inr ⟨.inl rfl,hp.1⟩
    ·exact .inr ⟨.inr h.1,h.2⟩
   ·rintro(h|⟨rfl|h,k⟩)
    ·exact .inl (.inl h)
    ·exact .inl (.inr rfl)
    ·exact .inr ⟨h,k⟩
  ·rw[if_neg hp]
   obtain⟨h1,h2⟩:=zla P r acc h
   refine⟨h1,λy=>?_⟩
   rw[h2]
   simp only[List.mem_cons]
   constructor
   ·rintro(h|h)
    ·exact .inl h
    ·exact .inr ⟨.inr h.1,h.2⟩
   ·rintro(h|⟨rfl|h,k⟩)
    ·exact .inl h
    ·refine .inl ?_
     simp only[Bool.and_eq_true,Bool.not_eq_true',List.contains_eq_mem,decide_eq_false_iff_not,not_and,Decidable.not_not] at hp
     exact hp k
    ·exact .inr ⟨h,k⟩
def znt (a b c d:Pt):Int:=
 if turn a b c=0/\turn a b d=0/\turn c d a=0/\turn c d b=0 then
  min 2 ((uniq (λx=>decide (onR a b x)&&decide (onR c d x)&&decide (turn a b x=0)&&decide (turn c d x=0)) [] [a,b,c,d]).length:Int)
 else if turn a b c*turn a b d<=0/\turn c d a*turn c d b<=0/\(turn a b c≠0\/onR a b c)/\(turn a b d≠0\/onR a b d) then 1
 else if turn a b c=0/\onR a b c\/turn a b d=0/\onR a b d\/turn c d a=0/\onR c d a\/turn c d b=0/\onR c d b then 1
 else 0
def le (p q:Pt):Prop:=ordP p q<=0
theorem zlb {a b x:Pt} (h:turn a b x=0):onR a b x↔le (low a b) x/\le x (high a b):=by
 rw[zgy] at h
 have e1:(b.x-a.x)*(x.y-a.y)=(b.y-a.y)*(x.x-a.x):=by unfold cr at h;grind
 have e2:(b.x-a.x)*(x.y-b.y)=(b.y-a.y)*(x.x-b.x):=by unfold cr at h;grind
 have f1:=congrArg (cmpR · 0) e1
 have f2:=congrArg (cmpR · 0) e2
 simp only[zrl,<-zdq] at f1 f2
 unfold onR le low high
 have k1:=zaw x.x a.x;have k2:=zaw x.x b.x;have k3:=zaw x.y a.y;have k4:=zaw x.y b.y
 have s1:=zet a.x x.x;have s2:=zet b.x x.x;have s3:=zet a.y x.y;have s4:=zet b.y x.y
 have s5:=zet a.x b.x;have s6:=zet a.y b.y
 unfold ordP
 rcases zaw a.x b.x with⟨p1,p2⟩|⟨p1,p2⟩|⟨p1,p2⟩<;>rcases zaw a.y b.y with⟨q1,q2⟩|⟨q1,q2⟩|⟨q1,q2⟩<;>clear e1 e2 h
 all_goals
  rw[p2] at s5
  rw[q2] at s6
  rw[s5,s6] at f1 f2
  simp[p2,q2]
  rcases k1 with⟨k1,l1⟩|⟨k1,l1⟩|⟨k1,l1⟩<;>rcases k2 with⟨k2,l2⟩|⟨k2,l2⟩|⟨k2,l2⟩<;>simp only[l1,l2] at s1 s2 f1 f2⊢ <;>first|(exfalso;grind;done)|grind
theorem le_trans {p q r:Pt} (h:le p q) (k:le q r):le p r:=by unfold le at*;have:=zas p q;have:=zas q r;have:=zas p r;grind
theorem le_antisymm {p q:Pt} (h:le p q) (k:le q p):p=q:=by unfold le at*;have:=zas p q;have:=zas q p;grind
theorem zhp (p:Pt):le p p:=by unfold le;rw[zgw];exact Int.le_refl _
theorem z7m (p q:Pt):le p q\/le q p:=by unfold le;have:=zas p q;have:=zas q p;grind
def maxP (p q:Pt):Pt:=if ordP q p>0 then q else p
def minP (p q:Pt):Pt:=if ordP q p<0 then q else p
theorem zt6 {p q x:Pt}:le (maxP p q) x↔le p x/\le q x:=by
 unfold maxP le;have:=zas p q;have:=zas q p;have:=zas p x;have:=zas q x;grind
theorem zt7 {p q x:Pt}:le x (minP p q)↔le x p/\le x q:=by
 unfold minP le;have:=zas p q;have:=zas q p;have:=zas x p;have:=zas x q;grind
theorem z1y {l:List Pt} {x y:Pt} (hx:x∈l) (hy:y∈l) (hne:x≠y):2<=l.length:=by
 match l,hx,hy with
 |[z],hx,hy=>simp at hx hy;exact absurd (hx.trans hy.symm) hne
 |_::_::_,_,_=>simp
theorem z1z {l:List Pt} {x:Pt} (hx:x∈l) (hd:l.Nodup) (h:∀y∈l,y=x):l.length=1:=by
 match l,hx with
 |[z],_=>rfl
 |z::y::r,_=>
  have h1:=h z (by simp)
  have h2:=h y (by simp)
  subst h1;subst h2
  simp at hd
theorem zp8 {a b c d:Pt} (h1:turn a b c=0) (h2:turn a b d=0) (h3:turn c d a=0) (h4:turn c d b=0):
 min 2 ((uniq (λx=>decide (onR a b x)&&decide (onR c d x)&&decide (turn a b x=0)&&decide (turn c d x=0)) [] [a,b,c,d]).length:Int)=1-ordP (maxP (low a b) (low c d)) (minP (high a b) (high c d)):=by
 obtain⟨hn,hm⟩:=zla (λx=>decide (onR a b x)&&decide (onR c d x)&&decide (turn a b x=0)&&decide (turn c d x=0)) [a,b,c,d] [] (by simp)
 generalize hL:uniq _ [] [a,b,c,d]=L at*
 have hz:∀y∈[a,b,c,d],turn a b y=0/\turn c d y=0:=by
  intro y hy
  simp at hy
  rcases hy with rfl|rfl|rfl|rfl
  ·exact⟨zcz _ _,h3⟩
  ·exact⟨zc8 _ _,h4⟩
  ·exact⟨h1,zcz _ _⟩
  ·exact⟨h2,zc8 _ _⟩
 have hm':∀y,y∈L↔y∈[a,b,c,d]/\le (maxP (low a b) (low c d)) y/\le y (minP (high a b) (high c d)):=by
  intro y
  rw[hm y]
  simp only[List.not_mem_nil,false_or]
  refine and_congr_right λhy=>?_
  obtain⟨z1,z2⟩:=hz y hy
  simp only[Bool.and_eq_true,decide_eq_true_eq,z1,z2,and_true,zlb z1,zlb z2,zt6,zt7]
  constructor
  ·rintro⟨⟨a1,a2⟩,a3,a4⟩;exact⟨⟨a1,a3⟩,a2,a4⟩
  ·rintro⟨⟨a1,a3⟩,a2,a4⟩;exact⟨⟨a1,a2⟩,a3,a4⟩
 have hf:maxP (low a b) (low c d)∈[a,b,c,d]:=by
  have l1:low a b=a\/low a b=b:=by unfold low;split<;>simp
  have l2:low c d=c\/low c d=d:=by unfold low;split<;>simp
  have l3:maxP (low a b) (low c d)=low a b\/maxP (low a b) (low c d)=low c d:=by unfold maxP;split<;>simp
  rcases l3 with l3|l3<;>rw[l3]<;>rcases l1 with l1|l1<;>rcases l2 with l2|l2<;>simp[l1,l2]
 have ht:minP (high a b) (high c d)∈[a,b,c,d]:=by
  have l1:high a b=a\/high a b=b:=by unfold high;split<;>simp
  have l2:high c d=c\/high c d=d:=by unfold high;split<;>simp
  have l3:minP (high a b) (high c d)=high a b\/minP (high a b) (high c d)=high c d:=by unfold minP;split<;>simp
  rcases l3 with l3|l3<;>rw[l3]<;>rcases l1 with l1|l1<;>rcases l2 with l2|l2<;>simp[l1,l2]
 generalize maxP (low a b) (low c d)=f at*
 generalize minP (high a b) (high c d)=t at*
 have ho:=zas f t
 have hle:le f t↔ordP f t<=0:=Iff.rfl
 rcases ho with⟨_,ho⟩|⟨e,ho⟩|⟨_,ho⟩
 ·have hlt:le f t:=by rw[hle,ho];decide
  have hne:f≠t:=λe=>by rw[e,zgw] at ho;cases ho
  have:=z1y ((hm' f).2 ⟨hf,zhp _,hlt⟩) ((hm' t).2 ⟨ht,hlt,zhp _⟩) hne
  rw[ho];omega
 ·subst e
  have:=z1z ((hm' f).2 ⟨hf,zhp _,zhp _⟩) hn (λy hy=>le_antisymm ((hm' y).1 hy).2.2 ((hm' y).1 hy).2.1)
  rw[ho];omega
 ·have:L=[]:=by
   cases L with
   |nil=>rfl
   |cons y r=>
    have:=(hm' y).1 (by simp)
    have:=hle.1 (le_trans this.2.1 this.2.2)
    omega
  rw[this,ho];rfl
theorem zmd (a b c d:Pt):znt a b c d=meet a b c d:=by
 unfold znt meet
 by_cases h0:turn a b c=0/\turn a b d=0/\turn c d a=0/\turn c d b=0
 ·obtain⟨h1,h2,h3,h4⟩:=h0
  rw[if_pos ⟨h1,h2,h3,h4⟩,if_neg (by omega),zp8 h1 h2 h3 h4]
  rfl
 ·have h0':turn a b c≠0\/turn a b d≠0\/turn c d a≠0\/turn c d b≠0:=by omega
  rw[if_neg h0,if_pos h0']
  by_cases hc:turn a b c*turn a b d<=0/\turn c d a*turn c d b<=0
  ·rw[if_pos hc,if_pos]
   refine⟨hc.1,hc.2,?_,?_⟩
   ·rcases Int.decEq (turn a b c) 0 with h|h
    ·exact .inl h
    ·refine .inr (zmc h ?_ hc.2)
     rcases Int.decEq (turn a b d) 0 with h'|h'
     ·exact zrm h h'
     ·omega
   ·rcases Int.decEq (turn a b d) 0 with h|h
    ·exact .inl h
    ·refine .inr (zmc (c:=d) (d:=c) h ?_ ?_)
     ·rcases Int.decEq (turn a b c) 0 with h'|h'
      ·exact zrm h h'
      ·rw[zda c d a,zda c d b];omega
     ·rw[zda c d a,zda c d b,Int.neg_mul_neg];exact hc.2
  ·rw[if_neg hc,if_neg (λh=>hc ⟨h.1,h.2.1⟩),if_neg]
   rintro(⟨h,k⟩|⟨h,k⟩|⟨h,k⟩|⟨h,k⟩)
   ·exact hc ⟨by rw[h,Int.zero_mul];exact Int.le_refl _,zgr h k⟩
   ·have:=zgr (d:=c) h k
    rw[zda c d a,zda c d b,Int.neg_mul_neg] at this
    exact hc ⟨by rw[h,Int.mul_zero];exact Int.le_refl _,this⟩
   ·exact hc ⟨zgr h k,by rw[h,Int.zero_mul];exact Int.le_refl _⟩
   ·have:=zgr (d:=a) h k
    rw[zda a b c,zda a b d,Int.neg_mul_neg] at this
    exact hc ⟨this,by rw[h,Int.mul_zero];exact Int.le_refl _⟩
end Go.Proofs.YtlaccnphhomdgaaGreatDoor.Geo
namespace Go.Proofs.YtlaccnphhomdgaaGreatDoor.Geo
theorem zh3 {a b c:Pt} (h:turn a b c≠0):meet a b b c=1:=by
 unfold meet
 rw[if_pos (.inr (.inl h)),if_pos]
 rw[zc8,zcz];simp
theorem zzm {a b c:Pt} (h:turn a b c=0) (h1:a≠b) (h2:b≠c) (h3:c≠a) (k1:meet a b b c=1) (k2:meet b c c a=1) (_:meet a b c a=1):False:=by
 have t1:turn b c a=0:=by rw[zj3];exact h
 have t2:turn c a b=0:=by rw[zj3];exact t1
 unfold meet at k1 k2
 rw[if_neg (by simp[zc8,zcz,h,t1])] at k1
 rw[if_neg (by simp[zc8,zcz,t1,t2])] at k2
 have o1:=zas a b;have o2:=zas b c;have o3:=zas c a
 have p1:=zas b a;have p2:=zas c b;have p3:=zas a c
 have s1:=zgw a;have s2:=zgw b;have s3:=zgw c
 have u1:∀{p q:Pt},p≠q->ordP p q≠0:=λ{p q} h e=>by have:=zas p q;grind
 have v1:=u1 h1;have v2:=u1 h2;have v3:=u1 h3
 unfold low high at k1 k2
 rcases o1 with⟨x1,o1⟩|⟨x1,o1⟩|⟨x1,o1⟩
 ·have q1:ordP b a=1:=by grind
  rcases o2 with⟨x2,o2⟩|⟨x2,o2⟩|⟨x2,o2⟩
  ·have q2:ordP c b=1:=by grind
   have q3:ordP a c= -1:=by grind
   have q4:ordP c a=1:=by grind
   first|(simp[o1,o2,q1,q2,s2] at k1;done)|(simp[o1,o2,q4,s3] at k2;done)
  ·exact absurd o2 v2
  ·have q2:ordP c b= -1:=by grind
   rcases o3 with⟨x3,o3⟩|⟨x3,o3⟩|⟨x3,o3⟩
   ·have q3:ordP a c=1:=by grind
    first|(simp[o1,o2,o3,s2] at k1;done)|(simp[o1,o2,q1,q2,q3,o3,s1,s2,s3] at k2;done)
   ·exact absurd o3 v3
   ·have q3:ordP a c= -1:=by grind
    first|(simp[o1,o2,q2,o3,s2] at k1;done)|(simp[o1,o2,q1,q2,q3,o3,s1,s2,s3] at k2;done)
 ·exact absurd o1 v1
 ·have q1:ordP b a= -1:=by grind
  rcases o2 with⟨x2,o2⟩|⟨x2,o2⟩|⟨x2,o2⟩
  ·have q2:ordP c b=1:=by grind
   rcases o3 with⟨x3,o3⟩|⟨x3,o3⟩|⟨x3,o3⟩
   ·have q3:ordP a c=1:=by grind
    first|(simp[o1,o2,o3,s2] at k1;done)|(simp[o1,o2,q1,q2,q3,o3,s1,s2,s3] at k2;done)
   ·exact absurd o3 v3
   ·have q3:ordP a c= -1:=by grind
    first|(simp[o1,o2,q1,o3,s2] at k1;done)|(simp[o1,o2,q1,q2,q3,o3,s1,s2,s3] at k2;done)
  ·exact absurd o2 v2
  ·have q2:ordP c b= -1:=by grind
   have q3:ordP a c=1:=by grind
   have q4:ordP c a= -1:=by grind
   first|(simp[o1,o2,q1,q2,s2] at k1;done)|(simp[o1,o2,q2,q4,s3] at k2;done)
theorem zt8 (a b c:Pt):(a≠b/\b≠c/\c≠a/\meet a b b c=1/\meet a b c a=1/\meet b c c a=1)↔turn a b c≠0:=by
 constructor
 ·rintro⟨h1,h2,h3,k1,k2,k3⟩ h
  exact zzm h h1 h2 h3 k1 k3 k2
 ·intro h
  have t1:turn b c a≠0:=by rw[zj3];exact h
  have t2:turn c a b≠0:=by rw[zj3];exact t1
  refine⟨λe=>h (by subst e;exact zo6 _ _),λe=>h (by subst e;exact zc8 _ _),λe=>h (by subst e;exact zcz _ _),zh3 h,?_,zh3 t1⟩
  rw[zo7];exact zh3 t2
end Go.Proofs.YtlaccnphhomdgaaGreatDoor.Geo
namespace Go.Proofs.YtlaccnphhomdgaaGreatDoor.Geo
def midP (p q:Pt):Pt:=⟨(p.x+q.x)/2,(p.y+q.y)/2⟩
theorem z8l (a b p q:Pt):cr a b (midP p q)=(cr a b p+cr a b q)/2:=by unfold cr midP;grind
theorem z8a (p q a:Pt):cr p (midP p q) a=cr p q a/2:=by unfold cr midP;grind
theorem z8b (p q a:Pt):cr (midP p q) q a=cr p q a/2:=by unfold cr midP;grind
theorem z6i (x:Rat):cmpR (x/2) 0=cmpR x 0:=by
 have:=zaw (x/2) 0;have:=zaw x 0;grind
theorem z4g (p q a:Pt):turn p (midP p q) a=turn p q a:=by rw[zgk,zgk,z8a,z6i]
theorem z4l (p q a:Pt):turn (midP p q) q a=turn p q a:=by rw[zgk,zgk,z8b,z6i]
theorem z7n (p q:Pt):turn p (midP p q) q=0:=by rw[z4g,zc8]
theorem z4y (a b p q:Pt):(turn a b p=turn a b q->turn a b (midP p q)=turn a b p)/\(turn a b p=0->turn a b (midP p q)=turn a b q)/\(turn a b q=0->turn a b (midP p q)=turn a b p):=by
 rw[zgk,zgk,zgk,z8l]
 have:=zaw (cr a b p) 0;have:=zaw (cr a b q) 0;have:=zaw ((cr a b p+cr a b q)/2) 0
 refine⟨λh=>?_,λh=>?_,λh=>?_⟩<;>grind
theorem z4z {p q:Pt} (h:ordP p q= -1):ordP p (midP p q)= -1/\ordP (midP p q) q= -1:=by
 have h1:=zas p q;have h2:=zas p (midP p q);have h3:=zas (midP p q) q
 unfold midP at*
 simp only at*
 grind
theorem z5i (p q:Pt):midP p q=midP q p:=by unfold midP;rw[Rat.add_comm p.x,Rat.add_comm p.y]
theorem z5p {p q:Pt} (h:ordP p q=1):ordP p (midP p q)=1/\ordP (midP p q) q=1:=by
 have h0:ordP q p= -1:=by have:=zas p q;have:=zas q p;grind
 obtain⟨h1,h2⟩:=z4z h0
 rw[z5i q p] at h1 h2
 have:=zas p (midP p q);have:=zas (midP p q) q;have:=zas q (midP p q);have:=zas (midP p q) p
 grind
theorem z8m {p q:Pt} (h:p≠q):p≠midP p q/\midP p q≠q:=by
 have h1:=zas p q
 rcases h1 with⟨_,h1⟩|⟨h1,_⟩|⟨_,h1⟩
 ·obtain⟨a,b⟩:=z4z h1
  constructor
  ·intro e;rw[<-e,zgw] at a;cases a
  ·intro e;rw[e,zgw] at b;cases b
 ·exact absurd h1 h
 ·obtain⟨a,b⟩:=z5p h1
  constructor
  ·intro e;rw[<-e,zgw] at a;cases a
  ·intro e;rw[e,zgw] at b;cases b
theorem z33 {a b c d:Pt} (h1:turn a b c=0) (h2:turn a b d=0) (h3:turn c d a=0) (h4:turn c d b=0):meet a b c d=1-ordP (maxP (low a b) (low c d)) (minP (high a b) (high c d)):=by
 unfold meet
 rw[if_neg (by omega)]
 rfl
theorem z8c (p q:Pt):le (low p q) (low p (midP p q))/\le (high p (midP p q)) (high p q):=by
 have h1:=zas p q;have h2:=zas p (midP p q);have h3:=zgw p
 rcases h1 with⟨_,h1⟩|⟨rfl,h1⟩|⟨_,h1⟩
 ·obtain⟨a,b⟩:=z4z h1
  unfold low high le
  rw[if_neg (by omega),if_neg (by omega),if_neg (by omega),if_neg (by omega),zgw];omega
 ·have:midP p p=p:=by unfold midP;obtain⟨x,y⟩:=p;simp only[Pt.mk.injEq];grind
  rw[this];exact⟨zhp _,zhp _⟩
 ·obtain⟨a,b⟩:=z5p h1
  have:ordP q (midP p q)= -1:=by have:=zas q (midP p q);have:=zas (midP p q) q;grind
  unfold low high le
  rw[if_pos (by omega),if_pos (by omega),if_pos (by omega),if_pos (by omega),zgw];omega
theorem z7o {a b c:Pt} (h:le b c):le (maxP a b) (maxP a c):=by
 rw[zt6]
 have:=zt6.1 (zhp (maxP a c))
 exact⟨this.1,le_trans h this.2⟩
theorem z7p {a b c:Pt} (h:le b c):le (minP a b) (minP a c):=by
 rw[zt7]
 have:=zt7.1 (zhp (minP a b))
 exact⟨this.1,le_trans this.2 h⟩
theorem z5q {a b p q:Pt} (h:meet a b p q=0):meet a b p (midP p q)=0:=by
 have e1:=z4g p q a;have e2:=z4g p q b
 obtain⟨m1,m2,m3⟩:=z4y a b p q
 have cA:=znm a b p;have cB:=znm a b q;have cM:=znm a b (midP p q)
 by_cases h0:turn a b p=0/\turn a b q=0/\turn p q a=0/\turn p q b=0
 ·obtain⟨h1,h2,h3,h4⟩:=h0
  have hm:turn a b (midP p q)=0:=by rw[m2 h1,h2]
  rw[z33 h1 h2 h3 h4] at h
  rw[z33 h1 hm (by rw[e1,h3]) (by rw[e2,h4])]
  obtain⟨l1,l2⟩:=z8c p q
  have k1:=z7o (a:=low a b) l1
  have k2:=z7p (a:=high a b) l2
  have o:=zas (maxP (low a b) (low p (midP p q))) (minP (high a b) (high p (midP p q)))
  rcases o with⟨_,o⟩|⟨_,o⟩|⟨_,o⟩
  ·have:=le_trans (le_trans k1 (show le _ _ by unfold le;omega)) k2
   unfold le at this;omega
  ·have:=le_trans (le_trans k1 (show le _ _ by unfold le;omega)) k2
   unfold le at this;omega
  ·omega
 ·have h0':turn a b p≠0\/turn a b q≠0\/turn p q a≠0\/turn p q b≠0:=by omega
  unfold meet at h
  rw[if_pos h0'] at h
  have hn:¬(turn a b p*turn a b q<=0/\turn p q a*turn p q b<=0):=λk=>by rw[if_pos k] at h;cases h
  unfold meet
  rw[e1,e2]
  have h0'':turn a b p≠0\/turn a b (midP p q)≠0\/turn p q a≠0\/turn p q b≠0:=by
   by_cases k:turn a b p=0
   ·rw[m2 k];omega
   ·exact .inl k
  rw[if_pos h0'',if_neg]
  rintro⟨k1,k2⟩
  refine hn ⟨?_,k2⟩
  rcases cA with x|x|x<;>rcases cB with y|y|y<;>rw[x,y]<;>first|omega|(exfalso;rw[x] at m1 m3;rw[y] at m1;have:=m1 rfl;rw[x,this] at k1;omega)
theorem z6p {a b p q:Pt} (h:meet a b p q=0):meet a b (midP p q) q=0:=by
 rw[<-z4c] at h⊢
 rw[z5i]
 exact z5q h
theorem z3t (p q:Pt):ordP q p= -ordP p q:=by have:=zas p q;have:=zas q p;grind
theorem z40 {p q r:Pt} {s:Int} (hs:s≠0) (h:ordP p q=s) (k:ordP q r=s):ordP p r=s:=by
 have:=zas p q;have:=zas q r;have:=zas p r;grind
theorem z41 {p q:Pt} (h:p≠q):ordP p q= -1\/ordP p q=1:=by have:=zas p q;grind
theorem z57 {u p q:Pt} (hu:u≠p) (hq:p≠q) (h:meet u p p q=1):meet u p p (midP p q)=1/\meet u p (midP p q) q=0:=by
 have hm:turn u p (midP p q)=turn u p q:=(z4y u p p q).2.1 (zc8 u p)
 by_cases hQ:turn u p q=0
 ·have e1:turn p q u=0:=by rw[zj3];exact hQ
  have l1:turn u p (midP p q)=0:=by rw[hm,hQ]
  have l2:turn p (midP p q) u=0:=by rw[z4g,e1]
  have l3:turn (midP p q) q u=0:=by rw[z4l,e1]
  have l4:turn (midP p q) q p=0:=by rw[z4l,zcz]
  rw[z33 (zc8 u p) hQ e1 (zcz p q)] at h
  rw[z33 (zc8 u p) l1 l2 (zcz _ _),z33 l1 hQ l3 l4]
  have su:=z3t u p;have sq:=z3t p q
  have zp:=zgw p;have zq:=zgw q;have zu:=zgw u
  rcases z41 hu with a|a<;>rcases z41 hq with b|b
  ·obtain⟨c,d⟩:=z4z b
   have s1:=z3t p (midP p q);have s2:=z3t (midP p q) q
   have t1:=z40 (by decide) a c;have s3:=z3t u (midP p q)
   have zm:=zgw (midP p q)
   generalize midP p q=m at*
   unfold maxP minP low high
   simp[a,b,c,d,s1,s3,t1,zp,su,sq]
  ·exfalso
   have t:=z3t q u
   unfold maxP minP low high at h
   rcases zas q u with⟨_,x⟩|⟨_,x⟩|⟨_,x⟩<;>simp[a,b,sq,zp,x] at h
  ·exfalso
   have t:=z3t q u
   unfold maxP minP low high at h
   rcases zas q u with⟨_,x⟩|⟨_,x⟩|⟨_,x⟩<;>simp[a,b,su,zp,x] at h
  ·obtain⟨c,d⟩:=z5p b
   have s1:=z3t p (midP p q);have s2:=z3t (midP p q) q
   have t1:=z40 (by decide) a c;have s3:=z3t u (midP p q)
   have t2:=z40 (by decide) a b;have s4:=z3t u q
   have zm:=zgw (midP p q)
   generalize midP p q=m at*
   unfold maxP minP low high
   simp[a,b,c,d,s1,s3,t1,zp,su,sq]
 ·refine⟨zh3 (by rw[hm];exact hQ),?_⟩
  unfold meet
  rw[hm,if_pos (.inl hQ),if_neg]
  rintro⟨k,_⟩
  rcases znm u p q with x|x|x<;>rw[x] at k hQ<;>omega
theorem z6f {p q:Pt} (h:p≠q):meet p (midP p q) (midP p q) q=1:=by
 have t1:turn (midP p q) q p=0:=by rw[z4l,zcz]
 rw[z33 (zc8 _ _) (z4g p q q▸zc8 p q) t1 (zcz _ _)]
 have sq:=z3t p q;have zm:=zgw (midP p q);have s1:=z3t p (midP p q);have s2:=z3t (midP p q) q
 rcases z41 h with b|b
 ·obtain⟨c,d⟩:=z4z b
  generalize midP p q=m at*
  unfold maxP minP low high
  simp[c,d,s1,s2,zm]
 ·obtain⟨c,d⟩:=z5p b
  generalize midP p q=m at*
  unfold maxP minP low high
  simp[c,d,s1,s2,zm]
end Go.Proofs.YtlaccnphhomdgaaGreatDoor.Geo
namespace Go.Proofs.YtlaccnphhomdgaaGreatDoor
open Go
variable {F:Fence} {n:Nat} {P:Program} {ops:Array Oper} {β:Type}
def zho (F:Fence) (n:Nat) (P:Program) (C:Value->zA->Prop):Result Next->Prop
 | .ok (.value u) w'=>C u w'
 | .ok .skip w'=>C undef w'
 | .ok (.enter f args) w'=>(F.depth.isSome=true->1<=n)/\CallsIn F (n-1) P f args w' (λe w''=>∃v,e=.returned v/\C v w'')
 | .ok (.round l f tmps assign body) w'=>(F.depth.isSome=true->1<=n)/\RoundIn F (n-1) P l f tmps assign body w' (λe w''=>∃v,e=.returned v/\C v w'')
 |_=>False
theorem zw5 {o:Oper} {a:Act} {w:zA} {C:Value->zA->Prop} {K:Act->zA->Prop} {Q:Exit->Act->zA->Prop} (hF:∀f,F.fn f) (hro:F.round=none) (hK:∀v w',C v w'->K (a.put o.dst v) w') (h:zho F n P C ((execOp a.eval o).run P w)):o.wpIn F n P a w K Q:=by
 refine⟨λf _=>hF f,?_⟩
 rw[hro,Oper.semAt_none]
 generalize (execOp a.eval o).run P w=r at*
 cases r with
 |ok x w'=>
  cases x<;>simp only[zho] at h<;>simp only[Oper.uponIn]
  ·exact hK _ _ h
  ·exact hK _ _ h
  ·exact⟨h.1,CallsIn.mono h.2 λe w'' ⟨v,he,hc⟩=>by subst he;exact hK _ _ hc⟩
  ·exact⟨h.1,RoundIn.mono h.2 λe w'' ⟨v,he,hc⟩=>by subst he;exact hK _ _ hc⟩
 |halt x w'=>simp only[zho] at h
def z1t (F:Fence) (n:Nat) (P:Program) (ops:Array Oper) (vs:β->Nat->Value) (C:β->Array Bool->zA->Prop) (i:Nat) (o:Oper) (a:Act) (b:β):Prop:=
 ∀L w,AcAt ops i L->C b L w->if Region.wanted o (yielded ops a.tmps) then zho F n P (zgx vs C i L b) ((execOp a.eval o).run P w) else zgx vs C i L b undef w
theorem zs8 (hF:∀f,F.fn f) (hro:F.round=none) {Q:Exit->Act->zA->Prop} {C:β->Array Bool->zA->Prop} (hB:(acB ops&&zfd ops)=true) (vs:β->Nat->Value) (a:Act)
 (step:∀b i o,ops[i]? =some o->z1t F n P ops vs C i o (zax ops (vs b) a (zbw ops.size i) ops.size) b)
 (hend:∀b L w,(∀i,i<ops.size->L.getD i false=true)->C b L w->Q .normal (zax ops (vs b) a (zbw ops.size ops.size) ops.size) w):
 ∀(fuel:Nat) (L:Array Bool) (w:zA) (b:β),L.size=ops.size->zoe ops L->((List.range ops.size).filter λi=>!L.getD i false).length<=fuel->C b L w->wpAnyIn F n P .any ops Q fuel L (zax ops (vs b) a L ops.size) w:=by
 obtain⟨hsel,hdist,hlook,hback⟩:=zmq hB
 have hq:∀b L w,(∀i,i<ops.size->L.getD i false=true)->C b L w->Q .normal (zax ops (vs b) a L ops.size) w:=by
  intro b L w hall hC
  have e:zax ops (vs b) a L ops.size=zax ops (vs b) a (zbw ops.size ops.size) ops.size:=by
   have:∀k,k<=ops.size->zax ops (vs b) a L k=zax ops (vs b) a (zbw ops.size ops.size) k:=by
    intro k
    induction k with
    |zero=>intro _;rfl
    |succ k ih=>
     intro hk
     simp only[zax]
     rw[ih (by omega),hall k (by omega),zd5]
     simp[show k<ops.size by omega]
   exact this _ (zN _)
  rw[e];exact hend b L w hall hC
 have hready:∀L,L.size=ops.size->Region.ready .any ops L=[]->∀i,i<ops.size->L.getD i false=true:=by
  intro L hsz h0 i
  induction i using Nat.strongRecOn with
  |_ i ih=>
   intro hi
   cases hl:L.getD i false with
   |true=>rfl
   |false=>
    have hm:i∈Region.ready .any ops L:=by
     refine mem_ready.2 ⟨getD_in (by omega) hl,ops[i],by simp[hi],λe he hb=>?_⟩
     have hlt:=hback i (ops[i]) (show ops[i]? =some (ops[i]) from Array.getElem?_eq_getElem hi) e he hb
     exact ih e.on hlt (Nat.lt_trans hlt hi)
    rw[h0] at hm;cases hm
 intro fuel
 induction fuel with
 |zero=>
  intro L w b hsz hcl hcount hC
  have hall:∀i,i<ops.size->L.getD i false=true:=by
   intro i hi
   cases hl:L.getD i false with
   |true=>rfl
   |false=>
    have:i∈(List.range ops.size).filter λi=>!L.getD i false:=List.mem_filter.2 ⟨List.mem_range.2 hi,by rw[hl];rfl⟩
    rw[List.length_eq_zero_iff.1 (Nat.le_zero.1 hcount)] at this;cases this
  refine⟨?_,hq b L w hall hC⟩
  apply List.eq_nil_iff_forall_not_mem.2
  intro i hi
  obtain⟨h1,o,ho,_⟩:=mem_ready.1 hi
  have:=hall i (Array.getElem?_eq_some_iff.1 ho).1
  rw[getD_both h1] at this;cases this
 |succ fuel ih=>
  intro L w b hsz hcl hcount hC
  refine⟨λh0=>hq b L w (hready L hsz h0) hC,λi hi=>?_⟩
  obtain⟨h1,o,ho,hall⟩:=mem_ready.1 hi
  have hin:i<ops.size:=(Array.getElem?_eq_some_iff.1 ho).1
  have hLi:=getD_both h1
  have hdone:∀j,Region.waitsFor .any ops i j=true->L.getD j false=true:=by
   intro j hw
   obtain⟨o',ho',e,he,hb,rfl⟩:=Region.waitsFor_spec hw
   have:o'=o:=Option.some.inj (ho'.symm.trans ho)
   subst this
   exact hall e he hb
  have hopen:∀j,Region.waitsFor .any ops j i=true->L.getD j false=false:=by
   intro j hw
   cases hl:L.getD j false with
   |false=>rfl
   |true=>rw[hcl j i hl hw] at hLi;cases hLi
  have hat:AcAt ops i L:=⟨hsz,hLi,hdone,hcl⟩
  have hst:=step b i o ho L w hat hC
  have hset:=λb'=>zic (vs b') a L i (by omega) hLi (λj d hne hd hj=>by
   rcases Nat.lt_or_ge j ops.size with hjn|hjn
   ·exact hdist i j d hin hjn (Ne.symm hne) hj hd
   ·simp[zcr,Array.getElem?_eq_none hjn] at hj) ops.size
  simp only[if_pos hin] at hset
  have hsame:=zit (ops:=ops) (a:=zax ops (vs b) a L ops.size) (b:=zax ops (vs b) a (zbw ops.size i) ops.size) (o:=o) (λcs b=>Region.noSelect_spec hsel i o cs b ho) (λt ht=>by
   refine zib (vs b) a L _ t ops.size λj hj hd=>?_
   rw[zd5]
   by_cases hji:j=i
   ·subst hji;rw[hLi];simp
   ·have:=hlook i j t hin hj (Ne.symm hji) hd (by simpa [zi8,ho] using ht)
    rcases this with⟨h2,h3⟩|⟨h2,h3⟩
    ·rw[hdone j h3];simp[hj,h2]
    ·rw[hopen j h3];simp;omega)
  have hnext:∀v w',zgx vs C i L b v w'->wpAnyIn F n P .any ops Q fuel (L.setIfInBounds i true) ((zax ops (vs b) a L ops.size).put o.dst v) w':=by
   rintro v w' ⟨b',hagree,rfl,hC'⟩
   have hd:o.dst=zcr ops i:=by simp[zcr,ho]
   rw[hd,ziw (vs b) (vs b') a L (λj hj=>(hagree j hj).symm) ops.size,<-hset b']
   refine ih _ w' b' (by simpa using hsz) ?_ ?_ hC'
   ·intro x y hx hw
    rw[zdp L i _ (by omega)] at hx⊢
    split
    ·rfl
    ·split at hx
     ·rename_i h;subst h;exact hdone y hw
     ·exact hcl x y hx hw
   ·have e:((List.range ops.size).filter λx=>!(L.setIfInBounds i true).getD x false)=((List.range ops.size).filter λx=>!L.getD x false).filter λx=>decide (x≠i):=by
     rw[List.filter_filter]
     refine List.filter_congr λx _=>?_
     rw[zdp L i x (by omega)]
     by_cases h:i=x
     ·subst h;simp
     ·simp[h,Ne.symm h]
    rw[e]
    have:=(List.length_filter_lt_length_iff_exists (l:=(List.range ops.size).filter λx=>!L.getD x false) (p:=λx=>decide (x≠i))).2 ⟨i,List.mem_filter.2 ⟨List.mem_range.2 hin,by rw[hLi];rfl⟩,by simp⟩
    omega
  unfold wpOpIn
  simp only[ho]
  rw[hsame.2]
  by_cases hw:Region.wanted o (yielded ops (zax ops (vs b) a (zbw ops.size i) ops.size).tmps)=true
  ·rw[if_pos hw] at hst⊢
   rw[<-hsame.1] at hst
   exact zw5 hF hro hnext hst
  ·rw[if_neg hw] at hst⊢
   exact⟨λf _=>hF f,hnext _ _ hst⟩
def zt3 (F:Fence) (n:Nat) (P:Program) (ops:Array Oper) (vs:β->Nat->Value) (C:β->(Nat->Bool)->zA->Prop) (i:Nat) (o:Oper) (a:Act) (b:β):Prop:=
 ∀f w,AcF ops i f->C b f w->
  if Region.wanted o (yielded ops a.tmps) then zho F n P (zhn vs C i f b) ((execOp a.eval o).run P w) else zhn vs C i f b undef w
def AcLN (F:Fence) (n:Nat) (P:Program) (ops:Array Oper) (vs:β->Nat->Value) (C:β->(Nat->Bool)->zA->Prop) (K:Act->zA->Prop) (b:β):Nat->List Oper->Act->Prop
 |_,[],a=>∀f w,(∀i,i<ops.size->f i=true)->C b f w->K a w
 |k,o::rest,a=>zt3 F n P ops vs C k o a b/\AcLN F n P ops vs C K b (k+1) rest (a.put o.dst (vs b k))
section
variable {vs:β->Nat->Value} {C:β->(Nat->Bool)->zA->Prop} {K:Act->zA->Prop} {k:Nat} {o:Oper} {rest:List Oper} {a:Act} {b:β}
theorem z1u (h:∀f w,(∀i,i<ops.size->f i=true)->C b f w->K a w):AcLN F n P ops vs C K b k [] a:=h
theorem zct (v:Value) (hv:vs b k=v) (hw:Region.wanted o (yielded ops a.tmps)=true)
 (hset:∀f w,C b f w->C b (λj=>if k=j then true else f j) w)
 (hy:∀f w,AcF ops k f->C b f w->(execOp a.eval o).run P w=.ok (.value v) w)
 (h:AcLN F n P ops vs C K b (k+1) rest (a.put o.dst v)):AcLN F n P ops vs C K b k (o::rest) a:=by
 subst hv
 refine⟨λf w hf hC=>?_,h⟩
 rw[if_pos hw,hy f w hf hC]
 exact⟨b,λ_ _=>rfl,rfl,hset f w hC⟩
theorem z1v (v:Value) (hv:vs b k=v) (hw:Region.wanted o (yielded ops a.tmps)=true)
 (hy:∀f w,AcF ops k f->C b f w->∀C':Value->zA->Prop,(∀b' w',(∀j,f j=true->vs b' j=vs b j)->C b' (λj=>if k=j then true else f j) w'->C' (vs b' k) w')->zho F n P C' ((execOp a.eval o).run P w))
 (h:AcLN F n P ops vs C K b (k+1) rest (a.put o.dst v)):AcLN F n P ops vs C K b k (o::rest) a:=by
 subst hv
 refine⟨λf w hf hC=>?_,h⟩
 rw[if_pos hw]
 exact hy f w hf hC _ λb' w' hj h'=>⟨b',hj,rfl,h'⟩
end
theorem zk8 {vs:β->Nat->Value} {C:β->(Nat->Bool)->zA->Prop} {K:Act->zA->Prop} {b:β}:∀(l:List Oper) (k:Nat) (a:Act),AcLN F n P ops vs C K b k l a->
 (∀i o,l[i]? =some o->zt3 F n P ops vs C (k+i) o (zbq (vs b) k l a i) b)/\(∀f w,(∀i,i<ops.size->f i=true)->C b f w->K (zbq (vs b) k l a l.length) w)
 |[],k,a,h=>⟨λi o h=>by simp at h,h⟩
 |o::l,k,a,⟨hv,h⟩=>by
  obtain⟨h1,h2⟩:=zk8 l (k+1) _ h
  refine⟨λi o' ho=>?_,?_⟩
  ·cases i with
   |zero=>
    obtain rfl:o=o':=by simpa using ho
    simpa [zbq] using hv
   |succ i=>
    have:=h1 i o' (by simpa using ho)
    simp only[zbq]
    rw[show k+(i+1)=k+1+i by omega]
    exact this
  ·simp only[zbq,List.length_cons]
   exact h2
theorem zrk (hF:∀f,F.fn f) (hro:F.round=none) {K:Act->zA->Prop} {Q:Exit->Act->zA->Prop} (hQ:∀a w,K a w->Q .normal a w) {l:List Oper} (vs:β->Nat->Value) (C:β->(Nat->Bool)->zA->Prop) (hB:(acB l.toArray&&zfd l.toArray)=true) {a:Act} {w:zA} (b0:β) (hC:C b0 (λ_=>false) w) (h:∀b,AcLN F n P l.toArray vs C K b 0 l a):
 wpAnyIn F n P .any l.toArray Q l.toArray.size (Array.replicate l.toArray.size false) a w:=by
 have e0:zax l.toArray (vs b0) a (Array.replicate l.toArray.size false) l.toArray.size=a:=by
  have:∀k,zax l.toArray (vs b0) a (Array.replicate l.toArray.size false) k=a:=by
   intro k
   induction k with
   |zero=>rfl
   |succ k ih=>
    have:(Array.replicate l.toArray.size false).getD k false=false:=by
     simp only[Array.getD];split<;>simp
    simp only[zax,this,Bool.false_eq_true,if_false];exact ih
  exact this _
 have:=zs8 (n:=n) hF hro (P:=P) (ops:=l.toArray) (Q:=Q) (C:=λb L w=>C b (λj=>L.getD j false) w) hB vs a ?_ ?_ l.toArray.size (Array.replicate l.toArray.size false) w b0 (by simp) ?_ ?_ ?_
 ·rw[e0] at this;exact this
 ·intro b i o ho L w hat hc
  have h1:=(zk8 l 0 a (h b)).1
  have hi:i<l.length:=by
   have:=(Array.getElem?_eq_some_iff.1 ho).1
   simpa using this
  have hst:=h1 i o (by simpa using ho) (λj=>L.getD j false) w (by rw[Nat.zero_add];exact⟨hat.self,hat.done,hat.closed⟩) hc
  have ea:zax l.toArray (vs b) a (zbw l.toArray.size i) l.toArray.size=zbq (vs b) 0 l a i:=by
   have:=zdg (vs b) l a i (by omega) l.length (zN _)
   rw[Nat.min_eq_left (by omega)] at this
   simpa using this
  have es:(λj=>(L.setIfInBounds i true).getD j false)=(λj=>if i=j then true else L.getD j false):=by
   funext j
   exact zdp L i j (by rw[hat.size];simpa using hi)
  rw[Nat.zero_add] at hst
  rw[ea]
  unfold zhn at hst
  unfold zgx
  simp only[es]
  exact hst
 ·intro b L w hall hc
  have h2:=(zk8 l 0 a (h b)).2
  have ea:zax l.toArray (vs b) a (zbw l.toArray.size l.toArray.size) l.toArray.size=zbq (vs b) 0 l a l.length:=by
   have:=zdg (vs b) l a l.length (zN _) l.length (zN _)
   rw[Nat.min_self] at this
   simpa using this
  rw[ea]
  exact hQ _ _ (h2 _ w hall hc)
 ·intro i j hi
  have:(Array.replicate l.toArray.size false).getD i false=false:=by simp only[Array.getD];split<;>simp
  rw[this] at hi;cases hi
 ·refine Nat.le_trans (List.length_filter_le _ _) (by simp)
 ·have:(λj=>(Array.replicate l.toArray.size false).getD j false)= λ_=>false:=by
   funext j
   simp only[Array.getD];split<;>simp
  simpa only[this] using hC
theorem zns {id:Nat} {Q:Exit->Act->zA->Prop} {a:Act} {w:zA} {l:List Oper} (hF:∀f,F.fn f) (hro:F.round=none) (vs:β->Nat->Value) (C:β->(Nat->Bool)->zA->Prop) (hm:P.follows .mixedOrders=true) (hB:(acB l.toArray&&zfd l.toArray)=true) (b0:β) (hC:C b0 (λ_=>false) {w with drawn:=w.drawn+1})
 (h:∀b,AcLN F n P l.toArray vs C (Q .normal) b 0 l a):(Code.region id l.toArray true).wpIn F n P Q a w:=
 wpIn_region_any hm (zrk hF hro (λ_ _ h=>h) vs C hB b0 hC h)
end Go.Proofs.YtlaccnphhomdgaaGreatDoor
namespace Go.Proofs.YtlaccnphhomdgaaGreatDoor
open Go.RowKit Go.Shelf Lib Str Limb
attribute [local go_sem] Oper.semAt_some
theorem zfr (v:Value) (w:zA) (p:Option Addr) (n cap:Nat) (hv:v=.slice p n cap):
 Calls zF 41 #[v] w λe w'=>e=.returned (.func (.func 80) #[] #[.pointer (some ⟨w.heap.size,0,none⟩)])/\w.alloc (.cells #[v] 22)=w':=by
 subst hv
 go_enter Tryz.func41,Tryz.ntmps41
 go_wp2
 go_ret
 exact⟨rfl,rfl⟩
theorem zai {W W':zA} (h:Below W.heap.size W W') {b o:Nat} {v:Value} (hc:W.cell? ⟨b,o,none⟩=some v):W'.cell? ⟨b,o,none⟩=some v:=(zac h).cell hc
def ptOf (l:List (List UInt8×List UInt8)) (i:Nat):List UInt8×List UInt8:=l[i]?.getD ([],[])
def zls (Bs:Nat) (p:Option Addr) (cap:Nat) (l:List (List UInt8×List UInt8)) (W:zA):Prop:=
 W.cell? ⟨Bs,0,none⟩=some (.slice p l.length cap)/\∀i,i<l.length->∃b off,p=some ⟨b,off,none⟩/\W.cell? ⟨b,off+i*2,none⟩=some (St (ptOf l i).1)/\W.cell? ⟨b,off+i*2+1,none⟩=some (St (ptOf l i).2)
def zk9 (l:List (List UInt8×List UInt8)) (k:Nat):Value:=
 .agg #[St (ptOf l k).1,St (ptOf l k).2,St (ptOf l ((k+1)%l.length)).1,St (ptOf l ((k+1)%l.length)).2]
theorem zgi (n:Nat) (hn:1<=n) (Bs:Nat) (l:List (List UInt8×List UInt8)) (hlen:l.length<=5000) (Rd:zA->Prop) (p:Option Addr) (cap:Nat) (hRd:∀W,Rd W->zls Bs p cap l W):
 IterC Fence.wide n zF 80 #[.pointer (some ⟨Bs,0,none⟩)] Rd (λk args=>args= #[I k,zk9 l k]) l.length:=by
 intro lp J Jx W hJr hJb hY h0
 refine callsIn_of_wp Tryz.func80 rfl trivial ?_ rfl
 simp only[Tryz.ntmps80,List.size_toArray,List.length_cons,List.length_nil,Nat.reduceAdd,Nat.reduceSub,Array.replicate_succ,Array.replicate_zero,List.push_toArray,List.append_toArray,List.nil_append,List.cons_append]
 obtain⟨hb,hcs⟩:=hRd W (hJr 0 W h0)
 obtain⟨N,hN⟩:∃N,N=l.length:=⟨_,rfl⟩
 have HRd:=hid λk W h=>hRd W (hJr k W h);clear hRd hJr
 have HY:=hid hY;clear hY
 have HJB:=hid hJb;clear hJb
 rw[<-hN] at hb hlen HY⊢
 have HN:=hid hN;clear hN hcs
 gi_wp2
 gi_loopw [7] (λi wr=>∃(k:Nat),k<=N/\i=.int .i64 (k:Int)/\Hid (J k wr))
  (λi _=>N-(RowKit.intOf i).toNat)
 case atStart=>exact⟨0,Nat.zero_le _,rfl,h0⟩
 case round=>
  clear hb
  obtain⟨k,hk,rfl,hJ⟩:=hrel
  by_cases hlt:k<N
  ·have hlN:l.length=N:=HN.out.symm
   obtain⟨hb,hc⟩:=HRd.out k wr hJ.out
   have hk2:(k+1)%N<N:=Nat.mod_lt _ (by omega)
   obtain⟨b,off,rfl,c0,c1⟩:=hc k (by omega)
   obtain⟨b',off',e,d0,d1⟩:=hc ((k+1)%N) (by omega)
   cases e
   rw[hlN] at hb
   have HY1:=hid λW h=>HY.out k #[I k,zk9 l k] W h hlt rfl
   unfold zk9 at HY1
   rw[hlN] at HY1
   clear HY HRd hc
   generalize (ptOf l k).1=x1 at c0 HY1
   generalize (ptOf l k).2=y1 at c1 HY1
   generalize (ptOf l ((k+1)%N)).1=x2 at d0 HY1
   generalize (ptOf l ((k+1)%N)).2=y2 at d1 HY1
   clear hlN HN
   have hm:Int.tmod ((k:Int)+1) (N:Int)=((k+1)%N:Nat):=by
    rw[show((k:Int)+1)=((k+1:Nat):Int) by omega];rfl
   generalize (k+1)%N=j at hk2 d0 d1 hm
   have hN0:¬N=0:=by omega
   have hwr:IntKind.i64.wrap ((k:Int)+1)=(k:Int)+1:=IntWalk.i64_in _ ⟨by omega,by omega⟩
   obtain⟨W4,hW4⟩:∃W4,W4=wr.alloc (.cells #[St x1,St y1] 27):=⟨_,rfl⟩
   have hB4:Below wr.heap.size wr W4:=by rw[hW4];exact(Below.refl _ wr).alloc (zN _) _
   have A4:W4.heap[wr.heap.size]? =some (.cells #[St x1,St y1] 27 (0,0)):=by rw[hW4];exact World.alloc_heap_new wr _
   have e0:W4.drew.cell? ⟨wr.heap.size,0,none⟩=some (St x1):=by show W4.cell? _=_;simp[World.cell?,A4]
   have e1:W4.drew.cell? ⟨wr.heap.size,1,none⟩=some (St y1):=by show W4.cell? _=_;simp[World.cell?,A4]
   have hb4:W4.drew.cell? ⟨Bs,0,none⟩=some (.slice (some ⟨b,off,none⟩) N cap):=zai hB4 hb
   have d04:W4.drew.cell? ⟨b,off+j*2,none⟩=some (St x2):=zai hB4 d0
   have d14:W4.drew.cell? ⟨b,off+j*2+1,none⟩=some (St y2):=zai hB4 d1
   have hJ4:=HJB.out k wr W4.drew hJ.out hB4.drew
   obtain⟨fn,tmps,assign,body,hy,hR⟩:=HY1.out W4.drew hJ4
   have HW4:=hid hW4;clear hW4 HY1 A4
   gi_wp2
   rw[<-HW4.out]
   refine zns (λ_=>trivial) rfl (λ(g:Bool) i=>([.func (.yield lp) #[] #[],.int .i64 (k:Int),.agg #[St x1,St y1],.slice (some ⟨b,off,none⟩) N cap,.int .i64 (k:Int),.int .i64 ((k:Int)+1),.slice (some ⟨b,off,none⟩) N cap,.int .i64 (N:Int),.int .i64 (j:Int),.pointer (some ⟨b,off+j*2,none⟩),.agg #[St x2,St y2],.agg #[St x1,St y1,St x2,St y2],.bool g,.bool !g]:List Value).getD i undef)
    (λg f W'=>(f 12=false->W'=W4.drew)/\(f 12=true->(g=true/\J (k+1) W')\/(g=false/\Jx W'))) (by kernel_rfl) (by kernel_rfl) true ⟨λ_=>rfl,λh=>by cases h⟩ λg=>?_
   refine zct (.func (.yield lp) #[] #[]) (by rfl) (by rfl) (λf W' h=>⟨h.1,h.2⟩) (λf W' hf h=>by
    obtain rfl:=h.1 (hf.no (j:=12) hf.self (by kernel_rfl))
    go_simp) ?_
   try simp only[zzQ]
   refine zct (.int .i64 (k:Int)) (by rfl) (by rfl) (λf W' h=>⟨h.1,h.2⟩) (λf W' hf h=>by
    obtain rfl:=h.1 (hf.no (j:=12) hf.self (by kernel_rfl))
    go_simp) ?_
   try simp only[zzQ]
   refine zct (.agg #[St x1,St y1]) (by rfl) (by rfl) (λf W' h=>⟨h.1,h.2⟩) (λf W' hf h=>by
    obtain rfl:=h.1 (hf.no (j:=12) (hf.no (j:=11) hf.self (by kernel_rfl)) (by kernel_rfl))
    go_simp) ?_
   try simp only[zzQ]
   refine zct (.slice (some ⟨b,off,none⟩) N cap) (by rfl) (by rfl) (λf W' h=>⟨h.1,h.2⟩) (λf W' hf h=>by
    obtain rfl:=h.1 (hf.no (j:=12) (hf.no (j:=11) (hf.no (j:=10) (hf.no (j:=9) hf.self (by kernel_rfl)) (by kernel_rfl)) (by kernel_rfl)) (by kernel_rfl))
    go_simp) ?_
   try simp only[zzQ]
   refine zct (.int .i64 (k:Int)) (by rfl) (by rfl) (λf W' h=>⟨h.1,h.2⟩) (λf W' hf h=>by
    obtain rfl:=h.1 (hf.no (j:=12) (hf.no (j:=11) (hf.no (j:=10) (hf.no (j:=9) (hf.no (j:=8) (hf.no (j:=5) hf.self (by kernel_rfl)) (by kernel_rfl)) (by kernel_rfl)) (by kernel_rfl)) (by kernel_rfl)) (by kernel_rfl))
    go_simp) ?_
   try simp only[zzQ]
   refine zct (.int .i64 ((k:Int)+1)) (by rfl) (by rfl) (λf W' h=>⟨h.1,h.2⟩) (λf W' hf h=>by
    obtain rfl:=h.1 (hf.no (j:=12) (hf.no (j:=11) (hf.no (j:=10) (hf.no (j:=9) (hf.no (j:=8) hf.self (by kernel_rfl)) (by kernel_rfl)) (by kernel_rfl)) (by kernel_rfl)) (by kernel_rfl))
    go_simp) ?_
   try simp only[zzQ]
   refine zct (.slice (some ⟨b,off,none⟩) N cap) (by rfl) (by rfl) (λf W' h=>⟨h.1,h.2⟩) (λf W' hf h=>by
    obtain rfl:=h.1 (hf.no (j:=12) (hf.no (j:=11) (hf.no (j:=10) (hf.no (j:=9) (hf.no (j:=8) (hf.no (j:=7) hf.self (by kernel_rfl)) (by kernel_rfl)) (by kernel_rfl)) (by kernel_rfl)) (by kernel_rfl)) (by kernel_rfl))
    go_simp) ?_
   try simp only[zzQ]
   refine zct (.int .i64 (N:Int)) (by rfl) (by rfl) (λf W' h=>⟨h.1,h.2⟩) (λf W' hf h=>by
    obtain rfl:=h.1 (hf.no (j:=12) (hf.no (j:=11) (hf.no (j:=10) (hf.no (j:=9) (hf.no (j:=8) hf.self (by kernel_rfl)) (by kernel_rfl)) (by kernel_rfl)) (by kernel_rfl)) (by kernel_rfl))
    go_simp) ?_
   try simp only[zzQ]
   refine zct (.int .i64 (j:Int)) (by rfl) (by rfl) (λf W' h=>⟨h.1,h.2⟩) (λf W' hf h=>by
    obtain rfl:=h.1 (hf.no (j:=12) (hf.no (j:=11) (hf.no (j:=10) (hf.no (j:=9) hf.self (by kernel_rfl)) (by kernel_rfl)) (by kernel_rfl)) (by kernel_rfl))
    go_simp) ?_
   try simp only[zzQ]
   refine zct (.pointer (some ⟨b,off+j*2,none⟩)) (by rfl) (by rfl) (λf W' h=>⟨h.1,h.2⟩) (λf W' hf h=>by
    obtain rfl:=h.1 (hf.no (j:=12) (hf.no (j:=11) (hf.no (j:=10) hf.self (by kernel_rfl)) (by kernel_rfl)) (by kernel_rfl))
    go_simp) ?_
   try simp only[zzQ]
   refine zct (.agg #[St x2,St y2]) (by rfl) (by rfl) (λf W' h=>⟨h.1,h.2⟩) (λf W' hf h=>by
    obtain rfl:=h.1 (hf.no (j:=12) (hf.no (j:=11) hf.self (by kernel_rfl)) (by kernel_rfl))
    go_simp) ?_
   try simp only[zzQ]
   refine zct (.agg #[St x1,St y1,St x2,St y2]) (by rfl) (by rfl) (λf W' h=>⟨h.1,h.2⟩) (λf W' hf h=>by
    obtain rfl:=h.1 (hf.no (j:=12) hf.self (by kernel_rfl))
    go_simp) ?_
   try simp only[zzQ]
   refine z1v (.bool g) (by rfl) (by rfl) (λf W' hf h C' hC'=>by
    obtain rfl:=h.1 hf.self
    go_simp
    refine⟨λ_=>by omega,hR.mono ?_⟩
    rintro e W3 (⟨rfl,hJ3⟩|⟨rfl,hJx3⟩)
    ·refine⟨_,rfl,hC' true W3 (λi hi=>?_) ⟨λh=>(by cases h),λ_=>.inl ⟨rfl,hJ3⟩⟩⟩
     match i,hi with
     |0,_|1,_|2,_|3,_|4,_|5,_|6,_|7,_|8,_|9,_|10,_|11,_=>rfl
     |12,hi=>rw[hf.self] at hi;cases hi
     |13,hi=>rw[hf.no (j:=13) hf.self (by kernel_rfl)] at hi;cases hi
     |_+14,_=>rfl
    ·refine⟨_,rfl,hC' false W3 (λi hi=>?_) ⟨λh=>(by cases h),λ_=>.inr ⟨rfl,hJx3⟩⟩⟩
     match i,hi with
     |0,_|1,_|2,_|3,_|4,_|5,_|6,_|7,_|8,_|9,_|10,_|11,_=>rfl
     |12,hi=>rw[hf.self] at hi;cases hi
     |13,hi=>rw[hf.no (j:=13) hf.self (by kernel_rfl)] at hi;cases hi
     |_+14,_=>rfl) ?_
   try simp only[zzQ]
   refine zct (.bool !g) (by rfl) (by rfl) (λf W' h=>⟨h.1,h.2⟩) (λf W' hf h=>by go_simp) ?_
   try simp only[zzQ]
   refine z1u λf W5 hf h=>?_
   rcases h.2 (hf 12 (by decide)) with⟨rfl,hJ5⟩|⟨rfl,hJx5⟩
   ·have HJ5:=hid hJ5;clear hJ5 hf h
    gi_wp2
    go_roundw
    case rel=>exact⟨k+1,by omega,by go_num,HJ5.out⟩
    case measure=>simp[RowKit.intOf];omega
   ·have HJx5:=hid hJx5;clear hJx5 hf h
    gi_wp2
    refine bodyPost_ret (results_none rfl _ _ _) rfl ?_
    exact⟨⟨_,rfl⟩,.inr HJx5.out⟩
  ·obtain rfl:k=N:=by omega
   gi_wp2
   go_end0
   exact⟨⟨_,rfl⟩,.inl hJ.out⟩
end Go.Proofs.YtlaccnphhomdgaaGreatDoor
