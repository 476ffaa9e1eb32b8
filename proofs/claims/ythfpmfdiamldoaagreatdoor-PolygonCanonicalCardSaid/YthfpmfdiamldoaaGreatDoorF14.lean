/- From a row's conditions to what the walks ask: the listed variables' cells; a point among the arguments. -/
import Derived.Test.YthfpmfdiamldoaaGreatDoorRows
import Derived.Test.YthfpmfdiamldoaaGreatDoorF13
import Derived.ProofKit
import Derived.Lib.LaidU8
import Derived.HandedShaped
import Derived.Lay
import Derived.Shelf.Vars
import Derived.Carry
set_option maxRecDepth 100000
set_option maxHeartbeats 8000000
open Go.Proofs.Tryz renaming prog → zF
open Nat renaming le_refl → zN
open List renaming mem_cons_self → yD
namespace Go.Proofs.YthfpmfdiamldoaaGreatDoor
open Go.RowKit Go.Shelf Lib Str Limb
open Go.ChangeShapes Go.WideShapes Go.ChangeAt
theorem zf9 {H:Type} {enc:TypeId×Value->H} {a:Assume} {C:Checked} {os:Os} {f:FuncId} {fn:Func} {s:ChangeSpec} {conds:List PathCond} {apart fresh handsOn again:Bool} {X:World->Array Value->Prop}
 (hX:∀(w w':World) (args:Array Value),w.heap=w'.heap->X w args->X w' args)
 (own:ownKnob C.prog.godebug=none) (started:os.Started) (noInit:C.prog.inits.idxOf? f=none) (hfn:C.prog.funcs[f]? =some fn)
 (witness:∃(w:World) (tape:Tape) (i:Input),w.os=os/\(w.forCall tape i).Shaped C.prog/\i.vars=[]/\Input.okWide C.prog (w.forCall tape i) .any w.heap.size f i/\
   ((s.pre enc C.prog fn conds apart (w.forCall tape i).memory i.args/\X (w.forCall tape i).memory i.args)/\sizedMet enc C.prog fn (OpenSpec.ofChange s) apart (w.forCall tape i).memory i.args)/\a.holds C.prog (lone (Frame.enter C.prog f i.args .normal) [] (w.forCall tape i)))
 (contract:∀(W:World) (args:Array Value) (ds gs:List (DataW H)) (before:List MemPlace) (base:Nat),
   (∀(j:Nat) t v,fn.params[j]? =some t->args[j]? =some v->Value.okWide C.prog W .any base t v)->
   DataW.Whole enc C.prog fn.params.toList s.vars apart W args.toList ds gs before->X W args->W.ShapedOpen C.prog->
   Calls C.prog f args W λe W'=>∃v,e=.returned v/\s.post enc C.prog fn apart fresh handsOn again W args v W'):
 ReturnsInHanded a C os f .any (λw args=>(s.pre enc C.prog fn conds apart w args/\X w args)/\sizedMet enc C.prog fn (OpenSpec.ofChange s) apart w args) (s.post enc C.prog fn apart fresh handsOn again):=by
 refine returnsInHanded_of_calls own started noInit witness ?_
 rintro w tape i _ hsh _ ⟨_,_,_,fn',hfn',_,_,_,_,hval⟩ ⟨⟨⟨ds,gs,before,hw,_⟩,hx⟩,_⟩ _
 obtain rfl:fn'=fn:=Option.some.inj (hfn'.symm.trans hfn)
 refine(contract (w.forCall tape i) i.args ds gs before w.heap.size hval (DataW.Whole.of_heap (w':=w.forCall tape i) (by rfl) hw) (hX _ _ _ (by rfl) hx) hsh).mono ?_
 rintro e W' ⟨v,rfl,hp⟩
 exact ChangeSpec.post_blind hp
theorem zp7 {H:Type} {enc:TypeId×Value->H} {P:Program} {w:World} {base:Nat} {sp:Nat->Bool} {held:Bool} {fuel:Nat} {t e:TypeId} {n:Nat} {cs:List Value} {ss:List (List UInt8)} {p:List MemPlace}
 (ht:P.underlying t=some (.array n e)) (he:P.underlying e=some .string) (hce:P.cellsOf e=1) (hct:P.cellsOf t=n) (hsl:ss.length=n)
 (h:DataW.trod enc P w base sp held fuel t cs=some (.agg (ss.map λs=>.lit (.string s)),p)):cs=ss.map λs=>Value.string ⟨s.toArray⟩:=by
 have hcl:cs.length=n:=by
  cases fuel with
  |zero=>simp[DataW.trod] at h
  |succ fuel=>
   have h0:=h
   simp only[DataW.trod,ht,hce,hct,Nat.mul_one] at h0
   split at h0
   ·rename_i hl;exact hl
   ·cases h0
 apply List.ext_getElem?
 intro i
 by_cases hi:i<n
 ·obtain⟨fu,d,q,hd,htr⟩:=array_elem ht h i hi
  rw[hce] at htr
  obtain⟨s,hs,hx,_⟩:=DataW.trod_string he htr
  simp only[Prod.mk.injEq] at hx
  obtain⟨rfl,_⟩:=hx
  have h1:cs[i]? =some (.string s):=by
   have:=congrArg (·[0]?) hs
   simpa [List.getElem?_take,List.getElem?_drop] using this
  rw[List.getElem?_map,Option.map_eq_some_iff] at hd
  obtain⟨l,hl,e⟩:=hd
  simp only[DataW.lit.injEq,Lit.string.injEq] at e
  rw[h1,List.getElem?_map,hl,e]
  rfl
 ·rw[List.getElem?_eq_none (by omega),List.getElem?_eq_none (by simp;omega)]
theorem z0v {l:List (String×DataW Unit)} {W:World} (hL:laidMet zF l W) (hm:("internal/strconv.uint64pow10",Rows.laid_internal_strconv_uint64pow10)∈l) (hs:W.ShapedOpen zF):Wd W:=by
 obtain⟨g,t,cs,fuel,p,hg,ht,hv,hd⟩:=Lib.laidMet.reads hL hm
 obtain rfl:g=2:=Option.some.inj (hg.symm.trans (by kernel_rfl))
 obtain rfl:t=293:=Option.some.inj (ht.symm.trans (by kernel_rfl))
 have e:(Rows.laid_internal_strconv_uint64pow10:DataW Unit)=Lib.tabData .u64 Lib.pow10Tab:=by kernel_rfl
 rw[e] at hd
 have hc:=Lib.cells_of_tab (n:=20) Tryz.underlying293 Tryz.underlying252 (by kernel_rfl) (by kernel_rfl) hd
 refine⟨?_,Proofs.cell_of_shapedOpen_int (t:=3) (zero:= #[.int .i64 0]) hs (of_decide_eq_true (by kernel_rfl)) (by kernel_rfl) rfl (by kernel_rfl) (by kernel_rfl) Tryz.underlying3⟩
 unfold Lib.TabIs
 rw[hv,<-hc]
theorem zzj:prV.toList=([[50],[51],[53],[55],[49,49],[49,51],[49,55],[49,57],[50,51],[50,57],[51,49],[51,55],[52,49],[52,51],[52,55],[53,51],[53,57],[54,49],[54,55],[55,49],[55,51],[55,57],[56,51],[56,57],[57,55]]:List (List UInt8)).map λs=>Value.string ⟨s.toArray⟩:=by kernel_rfl
theorem z0w {l:List (String×DataW Unit)} {W:World} (hL:laidMet zF l W) (hm:("kingpost/root.primes",Rows.laid_kingpost_root_primes)∈l):Pw W:=by
 obtain⟨g,t,cs,fuel,p,hg,ht,hv,hd⟩:=Lib.laidMet.reads hL hm
 obtain rfl:g=3:=Option.some.inj (hg.symm.trans (by kernel_rfl))
 obtain rfl:t=297:=Option.some.inj (ht.symm.trans (by kernel_rfl))
 have e:(Rows.laid_kingpost_root_primes:DataW Unit)=.agg (([[50],[51],[53],[55],[49,49],[49,51],[49,55],[49,57],[50,51],[50,57],[51,49],[51,55],[52,49],[52,51],[52,55],[53,51],[53,57],[54,49],[54,55],[55,49],[55,51],[55,57],[56,51],[56,57],[57,55]]:List (List UInt8)).map λs=>.lit (.string s)):=by kernel_rfl
 rw[e] at hd
 have hc:=zp7 (n:=25) Tryz.underlying297 Tryz.underlying9 (by kernel_rfl) (by kernel_rfl) (by decide) hd
 obtain rfl:cs=prV:=Array.toList_inj.1 (hc.trans zzj.symm)
 exact⟨hv⟩
theorem zrj:ownKnob Tryz.prog.godebug=none:=by kernel_rfl
theorem zgh:laidOutB zF=true:=by kernel_rfl
end Go.Proofs.YthfpmfdiamldoaaGreatDoor
namespace Go.Proofs.YthfpmfdiamldoaaGreatDoor.Geo
theorem zmz {a b:Rat} (ha:0<a) (hb:0<b):0<a*b:=Rat.mul_pos ha hb
theorem zzl {a b:Rat} (ha:0<a) (hb:b<0):a*b<0:=by
 have:=Rat.mul_pos ha (show 0< -b by grind);grind
theorem zw9 {a b:Rat} (ha:a<0) (hb:0<b):a*b<0:=by
 have:=Rat.mul_pos (show 0< -a by grind) hb;grind
theorem z1x {a b:Rat} (ha:a<0) (hb:b<0):0<a*b:=by
 have:=Rat.mul_pos (show 0< -a by grind) (show 0< -b by grind);grind
theorem zdq (a b:Rat):cmpR a b=cmpR (a-b) 0:=zmx _ _ _ _ (by grind)
theorem zrl (a b:Rat):cmpR (a*b) 0=cmpR a 0*cmpR b 0:=by
 rcases zaw a 0 with⟨h1,e1⟩|⟨h1,e1⟩|⟨h1,e1⟩<;>rcases zaw b 0 with⟨h2,e2⟩|⟨h2,e2⟩|⟨h2,e2⟩<;>rw[e1,e2]
 ·have:=z1x h1 h2;have:=zaw (a*b) 0;grind
 ·subst h2;rw[Rat.mul_zero,zeu];rfl
 ·have:=zw9 h1 h2;have:=zaw (a*b) 0;grind
 ·subst h1;rw[Rat.zero_mul,zeu];rfl
 ·subst h1;rw[Rat.zero_mul,zeu];rfl
 ·subst h1;rw[Rat.zero_mul,zeu];rfl
 ·have:=zzl h1 h2;have:=zaw (a*b) 0;grind
 ·subst h2;rw[Rat.mul_zero,zeu];rfl
 ·have:=zmz h1 h2;have:=zaw (a*b) 0;grind
theorem zcl (a:Rat):cmpR a 0= -1\/cmpR a 0=0\/cmpR a 0=1:=by have:=zaw a 0;grind
def onR (a b p:Pt):Prop:=cmpR p.x a.x*cmpR p.x b.x<=0/\cmpR p.y a.y*cmpR p.y b.y<=0
instance (a b p:Pt):Decidable (onR a b p):=by unfold onR;infer_instance
def cr (a b c:Pt):Rat:=(b.x-a.x)*(c.y-a.y)-(b.y-a.y)*(c.x-a.x)
theorem zgk (a b c:Pt):turn a b c=cmpR (cr a b c) 0:=zdq _ _
theorem zgy {a b c:Pt}:turn a b c=0↔cr a b c=0:=by rw[zgk,zgv]
theorem z0x {u v R S:Int} (hu:u= -1\/u=0\/u=1) (hv:v= -1\/v=0\/v=1) (hR:R= -1\/R=0\/R=1) (hS:S= -1\/S=0\/S=1) (h:u*S=v*R) (hRS:R≠0\/S≠0) (hle:R*S<=0):u*v<=0:=by
 rcases hu with rfl|rfl|rfl<;>rcases hv with rfl|rfl|rfl<;>rcases hR with rfl|rfl|rfl<;>rcases hS with rfl|rfl|rfl<;>omega
theorem z0y {u v R S:Int} (hu:u= -1\/u=0\/u=1) (hv:v= -1\/v=0\/v=1) (hR:R= -1\/R=0\/R=1) (hS:S= -1\/S=0\/S=1) (h:u*S=v*R) (hle:u*v<=0) (h0:0<R*S):u=0/\v=0:=by
 rcases hu with rfl|rfl|rfl<;>rcases hv with rfl|rfl|rfl<;>rcases hR with rfl|rfl|rfl<;>rcases hS with rfl|rfl|rfl<;>omega
theorem zmc {a b c d:Pt} (h0:turn a b c=0) (hq:turn c d a≠0\/turn c d b≠0) (h:turn c d a*turn c d b<=0):onR a b c:=by
 rw[zgy] at h0
 rw[zgk,zgk] at h hq
 have e1:(c.x-a.x)*cr c d b=(c.x-b.x)*cr c d a:=by unfold cr at*;grind
 have e2:(c.y-a.y)*cr c d b=(c.y-b.y)*cr c d a:=by unfold cr at*;grind
 have f1:=congrArg (cmpR · 0) e1
 have f2:=congrArg (cmpR · 0) e2
 simp only[zrl] at f1 f2
 unfold onR
 rw[zdq c.x,zdq c.x,zdq c.y,zdq c.y]
 exact⟨z0x (zcl _) (zcl _) (zcl _) (zcl _) f1 hq h,z0x (zcl _) (zcl _) (zcl _) (zcl _) f2 hq h⟩
theorem zgr {a b c d:Pt} (h0:turn a b c=0) (h:onR a b c):turn c d a*turn c d b<=0:=by
 rw[zgy] at h0
 rw[zgk,zgk]
 have e1:(c.x-a.x)*cr c d b=(c.x-b.x)*cr c d a:=by unfold cr at*;grind
 have e2:(c.y-a.y)*cr c d b=(c.y-b.y)*cr c d a:=by unfold cr at*;grind
 have f1:=congrArg (cmpR · 0) e1
 have f2:=congrArg (cmpR · 0) e2
 simp only[zrl] at f1 f2
 unfold onR at h
 rw[zdq c.x,zdq c.x,zdq c.y,zdq c.y] at h
 rcases Int.lt_or_le 0 (cmpR (cr c d a) 0*cmpR (cr c d b) 0) with hp|hp
 ·obtain⟨g1,g2⟩:=z0y (zcl _) (zcl _) (zcl _) (zcl _) f1 h.1 hp
  obtain⟨g3,g4⟩:=z0y (zcl _) (zcl _) (zcl _) (zcl _) f2 h.2 hp
  rw[zgv] at g1 g2 g3 g4
  have:cr c d a=0:=by unfold cr;grind
  rw[this,zeu] at hp
  omega
 ·exact hp
theorem zrm {a b c d:Pt} (h0:turn a b c=0) (h:turn a b d≠0):turn c d a≠0\/turn c d b≠0:=by
 rcases Int.decEq (turn c d a) 0 with h1|h1
 ·exact .inl h1
 ·refine .inr λh2=>h ?_
  rw[zgy] at*
  unfold cr at*
  grind
def uniq (P:Pt->Bool):List Pt->List Pt->List Pt
 |acc,[]=>acc
 |acc,x::r=>uniq P (if P x&&!acc.contains x then acc++[x] else acc) r
theorem zla (P:Pt->Bool):∀(l acc:List Pt),acc.Nodup->(uniq P acc l).Nodup/\∀y,y∈uniq P acc l↔y∈acc\/(y∈l/\P y=true)
 |[],acc,h=>⟨h,λy=>by simp[uniq]⟩
 |x::r,acc,h=>by
  rw[uniq]
  by_cases hp:(P x&&!acc.contains x)=true
  ·rw[if_pos hp]
   simp only[Bool.and_eq_true,Bool.not_eq_true',List.contains_eq_mem,decide_eq_false_iff_not] at hp
   obtain⟨h1,h2⟩:=zla P r (acc++[x]) (by rw[List.nodup_append];exact⟨h,by simp,λa ha b hb=>by simp at hb;subst hb;exact λe=>hp.2 (e▸ha)⟩)
   refine⟨h1,λy=>?_⟩
   rw[h2]
   simp only[List.mem_append,List.mem_cons,List.not_mem_nil,or_false]
   constructor
   ·rintro((h|rfl)|h)
    ·exact .inl h
    ·exact .inr ⟨.inl rfl,hp.1⟩
    ·exact .inr ⟨.inr h.1,h.2⟩
   ·rintro(h|⟨rfl|h,k⟩)
    ·exact .inl (.inl h)
    ·exact .inl (.inr rfl)
    ·exact .inr ⟨h,k⟩
  ·rw[if_neg hp]
   obtain⟨h1,h2⟩:=zla P r acc h
   refine⟨h1,λy=>?_⟩
   rw[h2]
   simp only[List.mem_cons]
   constructor
   ·rintro(h|h)
    ·exact .inl h
    ·exact .inr ⟨.inr h.1,h.2⟩
   ·rintro(h|⟨rfl|h,k⟩)
    ·exact .inl h
    ·refine .inl ?_
     simp only[Bool.and_eq_true,Bool.not_eq_true',List.contains_eq_mem,decide_eq_false_iff_not,not_and,Decidable.not_not] at hp
     exact hp k
    ·exact .inr ⟨h,k⟩
def znt (a b c d:Pt):Int:=
 if turn a b c=0/\turn a b d=0/\turn c d a=0/\turn c d b=0 then
  min 2 ((uniq (λx=>decide (onR a b x)&&decide (onR c d x)&&decide (turn a b x=0)&&decide (turn c d x=0)) [] [a,b,c,d]).length:Int)
 else if turn a b c*turn a b d<=0/\turn c d a*turn c d b<=0/\(turn a b c≠0\/onR a b c)/\(turn a b d≠0\/onR a b d) then 1
 else if turn a b c=0/\onR a b c\/turn a b d=0/\onR a b d\/turn c d a=0/\onR c d a\/turn c d b=0/\onR c d b then 1
 else 0
def le (p q:Pt):Prop:=ordP p q<=0
theorem zlb {a b x:Pt} (h:turn a b x=0):onR a b x↔le (low a b) x/\le x (high a b):=by
 rw[zgy] at h
 have e1:(b.x-a.x)*(x.y-a.y)=(b.y-a.y)*(x.x-a.x):=by unfold cr at h;grind
 have e2:(b.x-a.x)*(x.y-b.y)=(b.y-a.y)*(x.x-b.x):=by unfold cr at h;grind
 have f1:=congrArg (cmpR · 0) e1
 have f2:=congrArg (cmpR · 0) e2
 simp only[zrl,<-zdq] at f1 f2
 unfold onR le low high
 have k1:=zaw x.x a.x;have k2:=zaw x.x b.x;have k3:=zaw x.y a.y;have k4:=zaw x.y b.y
 have s1:=zet a.x x.x;have s2:=zet b.x x.x;have s3:=zet a.y x.y;have s4:=zet b.y x.y
 have s5:=zet a.x b.x;have s6:=zet a.y b.y
 unfold ordP
 rcases zaw a.x b.x with⟨p1,p2⟩|⟨p1,p2⟩|⟨p1,p2⟩<;>rcases zaw a.y b.y with⟨q1,q2⟩|⟨q1,q2⟩|⟨q1,q2⟩<;>clear e1 e2 h
 all_goals
  rw[p2] at s5
  rw[q2] at s6
  rw[s5,s6] at f1 f2
  simp[p2,q2]
  rcases k1 with⟨k1,l1⟩|⟨k1,l1⟩|⟨k1,l1⟩<;>rcases k2 with⟨k2,l2⟩|⟨k2,l2⟩|⟨k2,l2⟩<;>simp only[l1,l2] at s1 s2 f1 f2⊢ <;>first|(exfalso;grind;done)|grind
theorem le_trans {p q r:Pt} (h:le p q) (k:le q r):le p r:=by unfold le at*;have:=zas p q;have:=zas q r;have:=zas p r;grind
theorem le_antisymm {p q:Pt} (h:le p q) (k:le q p):p=q:=by unfold le at*;have:=zas p q;have:=zas q p;grind
theorem zhp (p:Pt):le p p:=by unfold le;rw[zgw];exact Int.le_refl _
theorem z7m (p q:Pt):le p q\/le q p:=by unfold le;have:=zas p q;have:=zas q p;grind
def maxP (p q:Pt):Pt:=if ordP q p>0 then q else p
def minP (p q:Pt):Pt:=if ordP q p<0 then q else p
theorem zt6 {p q x:Pt}:le (maxP p q) x↔le p x/\le q x:=by
 unfold maxP le;have:=zas p q;have:=zas q p;have:=zas p x;have:=zas q x;grind
theorem zt7 {p q x:Pt}:le x (minP p q)↔le x p/\le x q:=by
 unfold minP le;have:=zas p q;have:=zas q p;have:=zas x p;have:=zas x q;grind
theorem z1y {l:List Pt} {x y:Pt} (hx:x∈l) (hy:y∈l) (hne:x≠y):2<=l.length:=by
 match l,hx,hy with
 |[z],hx,hy=>simp at hx hy;exact absurd (hx.trans hy.symm) hne
 |_::_::_,_,_=>simp
theorem z1z {l:List Pt} {x:Pt} (hx:x∈l) (hd:l.Nodup) (h:∀y∈l,y=x):l.length=1:=by
 match l,hx with
 |[z],_=>rfl
 |z::y::r,_=>
  have h1:=h z (by simp)
  have h2:=h y (by simp)
  subst h1;subst h2
  simp at hd
theorem zp8 {a b c d:Pt} (h1:turn a b c=0) (h2:turn a b d=0) (h3:turn c d a=0) (h4:turn c d b=0):
 min 2 ((uniq (λx=>decide (onR a b x)&&decide (onR c d x)&&decide (turn a b x=0)&&decide (turn c d x=0)) [] [a,b,c,d]).length:Int)=1-ordP (maxP (low a b) (low c d)) (minP (high a b) (high c d)):=by
 obtain⟨hn,hm⟩:=zla (λx=>decide (onR a b x)&&decide (onR c d x)&&decide (turn a b x=0)&&decide (turn c d x=0)) [a,b,c,d] [] (by simp)
 generalize hL:uniq _ [] [a,b,c,d]=L at*
 have hz:∀y∈[a,b,c,d],turn a b y=0/\turn c d y=0:=by
  intro y hy
  simp at hy
  rcases hy with rfl|rfl|rfl|rfl
  ·exact⟨zcz _ _,h3⟩
  ·exact⟨zc8 _ _,h4⟩
  ·exact⟨h1,zcz _ _⟩
  ·exact⟨h2,zc8 _ _⟩
 have hm':∀y,y∈L↔y∈[a,b,c,d]/\le (maxP (low a b) (low c d)) y/\le y (minP (high a b) (high c d)):=by
  intro y
  rw[hm y]
  simp only[List.not_mem_nil,false_or]
  refine and_congr_right λhy=>?_
  obtain⟨z1,z2⟩:=hz y hy
  simp only[Bool.and_eq_true,decide_eq_true_eq,z1,z2,and_true,zlb z1,zlb z2,zt6,zt7]
  constructor
  ·rintro⟨⟨a1,a2⟩,a3,a4⟩;exact⟨⟨a1,a3⟩,a2,a4⟩
  ·rintro⟨⟨a1,a3⟩,a2,a4⟩;exact⟨⟨a1,a2⟩,a3,a4⟩
 have hf:maxP (low a b) (low c d)∈[a,b,c,d]:=by
  have l1:low a b=a\/low a b=b:=by unfold low;split<;>simp
  have l2:low c d=c\/low c d=d:=by unfold low;split<;>simp
  have l3:maxP (low a b) (low c d)=low a b\/maxP (low a b) (low c d)=low c d:=by unfold maxP;split<;>simp
  rcases l3 with l3|l3<;>rw[l3]<;>rcases l1 with l1|l1<;>rcases l2 with l2|l2<;>simp[l1,l2]
 have ht:minP (high a b) (high c d)∈[a,b,c,d]:=by
  have l1:high a b=a\/high a b=b:=by unfold high;split<;>simp
  have l2:high c d=c\/high c d=d:=by unfold high;split<;>simp
  have l3:minP (high a b) (high c d)=high a b\/minP (high a b) (high c d)=high c d:=by unfold minP;split<;>simp
  rcases l3 with l3|l3<;>rw[l3]<;>rcases l1 with l1|l1<;>rcases l2 with l2|l2<;>simp[l1,l2]
 generalize maxP (low a b) (low c d)=f at*
 generalize minP (high a b) (high c d)=t at*
 have ho:=zas f t
 have hle:le f t↔ordP f t<=0:=Iff.rfl
 rcases ho with⟨_,ho⟩|⟨e,ho⟩|⟨_,ho⟩
 ·have hlt:le f t:=by rw[hle,ho];decide
  have hne:f≠t:=λe=>by rw[e,zgw] at ho;cases ho
  have:=z1y ((hm' f).2 ⟨hf,zhp _,hlt⟩) ((hm' t).2 ⟨ht,hlt,zhp _⟩) hne
  rw[ho];omega
 ·subst e
  have:=z1z ((hm' f).2 ⟨hf,zhp _,zhp _⟩) hn (λy hy=>le_antisymm ((hm' y).1 hy).2.2 ((hm' y).1 hy).2.1)
  rw[ho];omega
 ·have:L=[]:=by
   cases L with
   |nil=>rfl
   |cons y r=>
    have:=(hm' y).1 (by simp)
    have:=hle.1 (le_trans this.2.1 this.2.2)
    omega
  rw[this,ho];rfl
theorem zmd (a b c d:Pt):znt a b c d=meet a b c d:=by
 unfold znt meet
 by_cases h0:turn a b c=0/\turn a b d=0/\turn c d a=0/\turn c d b=0
 ·obtain⟨h1,h2,h3,h4⟩:=h0
  rw[if_pos ⟨h1,h2,h3,h4⟩,if_neg (by omega),zp8 h1 h2 h3 h4]
  rfl
 ·have h0':turn a b c≠0\/turn a b d≠0\/turn c d a≠0\/turn c d b≠0:=by omega
  rw[if_neg h0,if_pos h0']
  by_cases hc:turn a b c*turn a b d<=0/\turn c d a*turn c d b<=0
  ·rw[if_pos hc,if_pos]
   refine⟨hc.1,hc.2,?_,?_⟩
   ·rcases Int.decEq (turn a b c) 0 with h|h
    ·exact .inl h
    ·refine .inr (zmc h ?_ hc.2)
     rcases Int.decEq (turn a b d) 0 with h'|h'
     ·exact zrm h h'
     ·omega
   ·rcases Int.decEq (turn a b d) 0 with h|h
    ·exact .inl h
    ·refine .inr (zmc (c:=d) (d:=c) h ?_ ?_)
     ·rcases Int.decEq (turn a b c) 0 with h'|h'
      ·exact zrm h h'
      ·rw[zda c d a,zda c d b];omega
     ·rw[zda c d a,zda c d b,Int.neg_mul_neg];exact hc.2
  ·rw[if_neg hc,if_neg (λh=>hc ⟨h.1,h.2.1⟩),if_neg]
   rintro(⟨h,k⟩|⟨h,k⟩|⟨h,k⟩|⟨h,k⟩)
   ·exact hc ⟨by rw[h,Int.zero_mul];exact Int.le_refl _,zgr h k⟩
   ·have:=zgr (d:=c) h k
    rw[zda c d a,zda c d b,Int.neg_mul_neg] at this
    exact hc ⟨by rw[h,Int.mul_zero];exact Int.le_refl _,this⟩
   ·exact hc ⟨zgr h k,by rw[h,Int.zero_mul];exact Int.le_refl _⟩
   ·have:=zgr (d:=a) h k
    rw[zda a b c,zda a b d,Int.neg_mul_neg] at this
    exact hc ⟨this,by rw[h,Int.mul_zero];exact Int.le_refl _⟩
end Go.Proofs.YthfpmfdiamldoaaGreatDoor.Geo
namespace Go.Proofs.YthfpmfdiamldoaaGreatDoor.Geo
def xorK (p:Nat->Bool):Nat->Bool
 |0=>false
 |k+1=>xor (xorK p k) (p k)
theorem z12 (p q:Nat->Bool):∀n,xorK (λk=>xor (p k) (q k)) n=xor (xorK p n) (xorK q n)
 |0=>rfl
 |n+1=>by
  unfold xorK
  rw[z12 p q n]
  cases xorK p n<;>cases xorK q n<;>cases p n<;>cases q n<;>rfl
theorem z3a (e:Nat->Bool):∀n,xorK (λk=>xor (e k) (e (k+1))) n=xor (e 0) (e n)
 |0=>by unfold xorK;cases e 0<;>rfl
 |n+1=>by
  unfold xorK
  rw[z3a e n]
  cases e 0<;>cases e n<;>cases e (n+1)<;>rfl
theorem zpq {p q:Nat->Bool}:∀{n:Nat},(∀k,k<n->p k=q k)->xorK p n=xorK q n
 |0,_=>rfl
 |n+1,h=>by
  unfold xorK
  rw[zpq (n:=n) λk hk=>h k (by omega),h n (by omega)]
theorem z9z {g:Nat->Bool} {i j:Nat} {A B:Bool} (hij:i≠j):∀{n:Nat},(∀k,k<n->g k=if k=i then A else if k=j then B else false)->xorK g n=xor (decide (i<n)&&A) (decide (j<n)&&B)
 |0,_=>by simp[xorK]
 |n+1,h=>by
  unfold xorK
  rw[z9z hij (n:=n) λk hk=>h k (by omega),h n (by omega)]
  by_cases h1:n=i
  ·have h2:¬n=j:=by omega
   have e1:decide (i<n)=false:=decide_eq_false (by omega)
   have e2:decide (i<n+1)=true:=decide_eq_true (by omega)
   have e3:decide (j<n)=decide (j<n+1):=by rw[decide_eq_decide];omega
   rw[if_pos h1,e1,e2,e3]
   cases A<;>cases (decide (j<n+1)&&B)<;>rfl
  ·by_cases h2:n=j
   ·have e1:decide (j<n)=false:=decide_eq_false (by omega)
    have e2:decide (j<n+1)=true:=decide_eq_true (by omega)
    have e3:decide (i<n)=decide (i<n+1):=by rw[decide_eq_decide];omega
    rw[if_neg h1,if_pos h2,e1,e2,e3]
    cases B<;>cases (decide (i<n+1)&&A)<;>rfl
   ·have e3:decide (i<n)=decide (i<n+1):=by rw[decide_eq_decide];omega
    have e4:decide (j<n)=decide (j<n+1):=by rw[decide_eq_decide];omega
    rw[if_neg h1,if_neg h2,e3,e4]
    cases (decide (i<n+1)&&A)<;>cases (decide (j<n+1)&&B)<;>rfl
def spn (u:Nat->Rat) (k:Nat) (t:Rat):Prop:=(u k<t/\t<u (k+1))\/(u (k+1)<t/\t<u k)
def cln (u:Nat->Rat) (k:Nat) (t:Rat):Prop:=(u k<=t/\t<=u (k+1))\/(u (k+1)<=t/\t<=u k)
instance (u:Nat->Rat) (k:Nat) (t:Rat):Decidable (spn u k t):=by unfold spn;infer_instance
def slo (u v:Nat->Rat) (k:Nat):Rat:=(v (k+1)-v k)/(u (k+1)-u k)
def hgt (u v:Nat->Rat) (k:Nat) (t:Rat):Rat:=v k+slo u v k*(t-u k)
theorem zyh {u:Nat->Rat} {k:Nat} {t:Rat} (h:spn u k t):cln u k t:=by unfold spn at h;unfold cln;grind
structure Swp (n:Nat) (u v:Nat->Rat):Prop where
 n3:3<=n
 cu:u n=u 0
 cv:v n=v 0
 du:∀i j,i<n->j<n->i≠j->u i≠u j
 nc:∀i k,i<n->k<n->i≠k->∀t,spn u i t->cln u k t->hgt u v i t≠hgt u v k t
section
variable {n:Nat} {u v:Nat->Rat}
theorem Swp.ne (h:Swp n u v) {k:Nat} (hk:k<n):u k≠u (k+1):=by
 by_cases e:k+1=n
 ·have:=h.n3
  rw[e,h.cu];exact h.du k 0 hk (by omega) (by omega)
 ·exact h.du k (k+1) hk (by omega) (by omega)
theorem zto (k:Nat):hgt u v k (u k)=v k:=by unfold hgt;grind
theorem Swp.right (h:Swp n u v) {k:Nat} (hk:k<n):hgt u v k (u (k+1))=v (k+1):=by
 have h0:u (k+1)-u k≠0:=λe=>h.ne hk (by grind)
 unfold hgt slo
 rw[Rat.div_mul_cancel h0]
 grind
theorem zn7 (k:Nat) (a b:Rat):hgt u v k b=hgt u v k a+slo u v k*(b-a):=by unfold hgt;grind
theorem zn8 {D E:Rat} (hE:0<E) (h0:0<=D) (h1:D<=E):∃m:Rat,m*E=D/\0<=m/\m<=1:=by
 have e:D/E*E=D:=Rat.div_mul_cancel (by grind)
 refine⟨D/E,e,?_,?_⟩
 ·by_cases c:0<=D/E
  ·exact c
  ·have:=zw9 (Rat.not_le.1 c) hE
   grind
 ·by_cases c:D/E<=1
  ·exact c
  ·have h2:0<D/E-1:=by have:=Rat.not_le.1 c;grind
   have:=zmz h2 hE
   grind
theorem yc1 {a b m:Rat} (h0:0<=m) (h1:m<=1):(a<=a+m*(b-a)/\a+m*(b-a)<=b)\/(b<=a+m*(b-a)/\a+m*(b-a)<=a):=by
 by_cases c:a<=b
 ·left
  have p1:=Rat.mul_nonneg h0 (show 0<=b-a by grind)
  have p2:=Rat.mul_nonneg (show 0<=1-m by grind) (show 0<=b-a by grind)
  grind
 ·right
  have c:=Rat.not_le.1 c
  have p1:=Rat.mul_nonneg h0 (show 0<=a-b by grind)
  have p2:=Rat.mul_nonneg (show 0<=1-m by grind) (show 0<=a-b by grind)
  grind
theorem Swp.keep1 (h:Swp n u v) {i k:Nat} (hi:i<n) (hk:k<n) (hik:i≠k) {a b:Rat} (a1:spn u i a) (b1:spn u i b) (a2:cln u k a) (b2:cln u k b) (hl:hgt u v k a<hgt u v i a):hgt u v k b<hgt u v i b:=by
 by_cases c:hgt u v k b<hgt u v i b
 ·exact c
 ·exfalso
  have c:=Rat.not_lt.1 c
  obtain⟨m,e,m0,m1⟩:=zn8 (D:=hgt u v i a-hgt u v k a) (E:=(hgt u v i a-hgt u v k a)+(hgt u v k b-hgt u v i b)) (by grind) (by grind) (by grind)
  have hb:=yc1 (a:=a) (b:=b) m0 m1
  refine h.nc i k hi hk hik (a+m*(b-a)) ?_ ?_ ?_
  ·unfold spn at*;grind
  ·unfold cln at*;grind
  ·have f1:=zn7 (u:=u) (v:=v) i a (a+m*(b-a))
   have f2:=zn7 (u:=u) (v:=v) k a (a+m*(b-a))
   have f3:=zn7 (u:=u) (v:=v) i a b
   have f4:=zn7 (u:=u) (v:=v) k a b
   rw[f1,f2]
   grind
theorem Swp.keep (h:Swp n u v) {i k:Nat} (hi:i<n) (hk:k<n) (hik:i≠k) {a b:Rat} (a1:spn u i a) (b1:spn u i b) (a2:cln u k a) (b2:cln u k b):hgt u v k a<hgt u v i a↔hgt u v k b<hgt u v i b:=
 ⟨h.keep1 hi hk hik a1 b1 a2 b2,h.keep1 hi hk hik b1 a1 b2 a2⟩
theorem Swp.keep' (h:Swp n u v) {i k:Nat} (hi:i<n) (hk:k<n) (hik:i≠k) {a b:Rat} (a1:cln u i a) (b1:cln u i b) (a2:spn u k a) (b2:spn u k b):hgt u v k a<hgt u v i a↔hgt u v k b<hgt u v i b:=by
 have e:=h.keep hk hi (Ne.symm hik) a2 b2 a1 b1
 have n1:=h.nc k i hk hi (Ne.symm hik) a a2 a1
 have n2:=h.nc k i hk hi (Ne.symm hik) b b2 b1
 grind
end
end Go.Proofs.YthfpmfdiamldoaaGreatDoor.Geo
namespace Go.Proofs.YthfpmfdiamldoaaGreatDoor.Geo
def lowB (u v:Nat->Rat) (i:Nat) (t:Rat) (k:Nat):Bool:=decide (spn u k t/\hgt u v k t<hgt u v i t)
def parB (n:Nat) (u v:Nat->Rat) (i:Nat) (t:Rat):Bool:=xor (xorK (lowB u v i t) n) (decide (u i<u (i+1)))
def genr (n:Nat) (u:Nat->Rat) (t:Rat):Prop:=∀m,m<=n->u m≠t
theorem yc2 {p q r s:Prop} [Decidable p] [Decidable q] [Decidable r] [Decidable s] (h:(p↔q)↔(r↔s)):xor (decide p) (decide q)=xor (decide r) (decide s):=by
 by_cases a:p<;>by_cases b:q<;>by_cases c:r<;>by_cases d:s<;>simp_all
section
variable {n:Nat} {u v:Nat->Rat}
theorem yaw {i:Nat} {a b t:Rat} (sa:spn u i a) (sb:spn u i b) (h1:a<=t) (h2:t<=b):spn u i t:=by unfold spn at*;grind
theorem Swp.step (h:Swp n u v) {i k:Nat} (hi:i<n) (hk:k<n) (hik:i≠k) {a b:Rat} (hab:a<b) (ga:genr n u a) (gb:genr n u b) (sa:spn u i a) (sb:spn u i b):
 ((spn u k a/\hgt u v k a<hgt u v i a)↔(spn u k b/\hgt u v k b<hgt u v i b))↔
 ((a<u k/\u k<b/\v k<hgt u v i (u k))↔(a<u (k+1)/\u (k+1)<b/\v (k+1)<hgt u v i (u (k+1)))):=by
 have n1:=ga k (by omega);have n2:=ga (k+1) (by omega);have n3:=gb k (by omega);have n4:=gb (k+1) (by omega)
 have n5:=h.ne hk
 have K:=λ{x y:Rat} (x1:a<=x) (x2:x<=b) (y1:a<=y) (y2:y<=b) (x3:cln u k x) (y3:cln u k y)=>h.keep hi hk hik (yaw sa sb x1 x2) (yaw sa sb y1 y2) x3 y3
 have cP:cln u k (u k):=by unfold cln;grind
 have cQ:cln u k (u (k+1)):=by unfold cln;grind
 have eP:hgt u v k (u k)=v k:=zto k
 have eQ:hgt u v k (u (k+1))=v (k+1):=h.right hk
 have hab':a<=b:=by grind
 have laa:a<=a:=Rat.le_refl
 have lbb:b<=b:=Rat.le_refl
 have K1:cln u k a->cln u k b->_:=λx y=>K laa hab' hab' lbb x y
 have K2:cln u k a->a<u k->u k<b->_:=λx y z=>K laa hab' (Rat.le_of_lt y) (Rat.le_of_lt z) x cP
 have K3:cln u k a->a<u (k+1)->u (k+1)<b->_:=λx y z=>K laa hab' (Rat.le_of_lt y) (Rat.le_of_lt z) x cQ
 have K4:cln u k b->a<u k->u k<b->_:=λx y z=>K hab' lbb (Rat.le_of_lt y) (Rat.le_of_lt z) x cP
 have K5:cln u k b->a<u (k+1)->u (k+1)<b->_:=λx y z=>K hab' lbb (Rat.le_of_lt y) (Rat.le_of_lt z) x cQ
 have K6:a<u k->u k<b->a<u (k+1)->u (k+1)<b->_:=λx y z w=>K (Rat.le_of_lt x) (Rat.le_of_lt y) (Rat.le_of_lt z) (Rat.le_of_lt w) cP cQ
 rw[eP] at K2 K4 K6
 rw[eQ] at K3 K5 K6
 clear K cP cQ eP eQ sa sb ga gb
 unfold spn
 unfold cln at*
 generalize u k=P at*
 generalize u (k+1)=Q at*
 generalize (hgt u v k a<hgt u v i a)=A at*
 generalize (hgt u v k b<hgt u v i b)=B at*
 generalize (v k<hgt u v i P)=C at*
 generalize (v (k+1)<hgt u v i Q)=D at*
 grind
theorem Swp.along (h:Swp n u v) {i:Nat} (hi:i<n) {a b:Rat} (hab:a<b) (ga:genr n u a) (gb:genr n u b) (sa:spn u i a) (sb:spn u i b):parB n u v i a=parB n u v i b:=by
 have e:∀k,k<n->xor (lowB u v i a k) (lowB u v i b k)=xor ((λj=>decide (a<u j/\u j<b/\v j<hgt u v i (u j))) k) ((λj=>decide (a<u j/\u j<b/\v j<hgt u v i (u j))) (k+1)):=λk hk=>by
  unfold lowB
  apply yc2
  by_cases hik:i=k
  ·subst hik
   unfold spn at sa sb
   grind
  ·exact h.step hi hk hik hab ga gb sa sb
 have e2:=zpq e
 rw[z12,z3a (λj=>decide (a<u j/\u j<b/\v j<hgt u v i (u j))) n] at e2
 rw[h.cu,h.cv] at e2
 unfold parB
 revert e2
 cases xorK (lowB u v i a) n<;>cases xorK (lowB u v i b) n<;>simp
end
end Go.Proofs.YthfpmfdiamldoaaGreatDoor.Geo
namespace Go.Proofs.YthfpmfdiamldoaaGreatDoor.Geo
theorem z9g (u:Nat->Rat) (x:Rat):∀n,∃t,t<x/\∀m,m<n->u m<x->u m<t
 |0=>⟨x-1,by grind,λm h=>absurd h (by omega)⟩
 |n+1=>by
  obtain⟨t,ht,h⟩:=z9g u x n
  by_cases c:u n<x/\t<=u n
  ·refine⟨(u n+x)/2,by grind,λm hm hx=>?_⟩
   by_cases e:m=n
   ·subst e;grind
   ·have:=h m (by omega) hx;grind
  ·refine⟨t,ht,λm hm hx=>?_⟩
   by_cases e:m=n
   ·subst e;grind
   ·exact h m (by omega) hx
theorem z3j (u:Nat->Rat) (x:Rat):∀n,∃t,x<t/\∀m,m<n->x<u m->t<u m
 |0=>⟨x+1,by grind,λm h=>absurd h (by omega)⟩
 |n+1=>by
  obtain⟨t,ht,h⟩:=z3j u x n
  by_cases c:x<u n/\u n<=t
  ·refine⟨(u n+x)/2,by grind,λm hm hx=>?_⟩
   by_cases e:m=n
   ·subst e;grind
   ·have:=h m (by omega) hx;grind
  ·refine⟨t,ht,λm hm hx=>?_⟩
   by_cases e:m=n
   ·subst e;grind
   ·exact h m (by omega) hx
def nearT (n:Nat) (u:Nat->Rat) (x t:Rat):Prop:=t≠x/\∀m,m<=n->(u m<x->u m<t)/\(x<u m->t<u m)
theorem nearT.gen {n:Nat} {u:Nat->Rat} {x t:Rat} (h:nearT n u x t):genr n u t:=λm hm e=>by
 obtain⟨h1,h2⟩:=h
 have:=h2 m hm
 grind
theorem ydc (n:Nat) (u:Nat->Rat) (x:Rat):∃t,t<x/\nearT n u x t:=by
 obtain⟨t,h1,h2⟩:=z9g u x (n+1)
 exact⟨t,h1,by grind,λm hm=>⟨h2 m (by omega),λk=>by grind⟩⟩
theorem ycy (n:Nat) (u:Nat->Rat) (x:Rat):∃t,x<t/\nearT n u x t:=by
 obtain⟨t,h1,h2⟩:=z3j u x (n+1)
 exact⟨t,h1,by grind,λm hm=>⟨λk=>by grind,h2 m (by omega)⟩⟩
section
variable {n:Nat} {u v:Nat->Rat}
theorem Swp.same (h:Swp n u v) {i:Nat} (hi:i<n) {a b:Rat} (ga:genr n u a) (gb:genr n u b) (sa:spn u i a) (sb:spn u i b):parB n u v i a=parB n u v i b:=by
 by_cases c:a<b
 ·exact h.along hi c ga gb sa sb
 ·by_cases d:b<a
  ·exact(h.along hi d gb ga sb sa).symm
  ·have:a=b:=by grind
   rw[this]
theorem Swp.low_at (h:Swp n u v) {i k e:Nat} (hi:i+1<n) (hk:k<n) (he:e=i\/e=i+1) (k1:k≠i) (k2:k≠i+1) {t:Rat} (ht:nearT n u (u (i+1)) t) (st:spn u e t):
 lowB u v e t k=decide (spn u k (u (i+1))/\hgt u v k (u (i+1))<v (i+1)):=by
 have hen:e<n:=by omega
 have hee:hgt u v e (u (i+1))=v (i+1):=by
  rcases he with rfl|rfl
  ·exact h.right (by omega)
  ·exact zto _
 have hc:cln u e (u (i+1)):=by
  rcases he with rfl|rfl
  ·unfold cln;grind
  ·unfold cln;grind
 have d1:u k≠u (i+1):=h.du k (i+1) hk hi k2
 have d2:u (k+1)≠u (i+1):=by
  by_cases c:k+1=n
  ·rw[c,h.cu];exact h.du 0 (i+1) (by omega) hi (by omega)
  ·exact h.du (k+1) (i+1) (by omega) hi (by omega)
 have t1:=ht.2 k (by omega)
 have t2:=ht.2 (k+1) (by omega)
 have hs:spn u k t↔spn u k (u (i+1)):=by unfold spn;grind
 unfold lowB
 rw[decide_eq_decide,hs]
 refine and_congr_right λhsp=>?_
 have:=h.keep' hen hk (show e≠k by omega) (zyh st) hc (hs.2 hsp) hsp
 rw[hee] at this
 exact this
theorem Swp.corner (h:Swp n u v) {i:Nat} (hi:i+1<n) {b:Bool} (hb:∀t,genr n u t->spn u i t->parB n u v i t=b):∀t,genr n u t->spn u (i+1) t->parB n u v (i+1) t=b:=by
 intro t gt st
 have ni:=h.ne (show i<n by omega)
 have nj:=h.ne hi
 -- one abscissa is enough
 have fin:∀s s',genr n u s->genr n u s'->spn u i s->spn u (i+1) s'->parB n u v i s=parB n u v (i+1) s'->parB n u v (i+1) t=b:=λs s' gs gs' hs hs' e=>by
  rw[h.same hi gt gs' st hs',<-e];exact hb s gs hs
 -- straight on
 have pass:∀s s',nearT n u (u (i+1)) s->nearT n u (u (i+1)) s'->spn u i s->spn u (i+1) s'->¬spn u i s'->¬spn u (i+1) s->decide (u i<u (i+1))=decide (u (i+1)<u (i+1+1))->parB n u v i s=parB n u v (i+1) s':=λs s' gs gs' hs hs' o1 o2 e=>by
  unfold parB
  rw[e]
  congr 1
  refine zpq λk hk=>?_
  by_cases k1:k=i
  ·subst k1
   have a1:lowB u v k s k=false:=decide_eq_false (λh=>by grind)
   have a2:lowB u v (k+1) s' k=false:=decide_eq_false (λh=>o1 h.1)
   rw[a1,a2]
  ·by_cases k2:k=i+1
   ·subst k2
    have a1:lowB u v i s (i+1)=false:=decide_eq_false (λh=>o2 h.1)
    have a2:lowB u v (i+1) s' (i+1)=false:=decide_eq_false (λh=>by grind)
    rw[a1,a2]
   ·rw[h.low_at hi hk (.inl rfl) k1 k2 gs hs,h.low_at hi hk (.inr rfl) k1 k2 gs' hs']
 -- back
 have back:∀s,nearT n u (u (i+1)) s->spn u i s->spn u (i+1) s->decide (u i<u (i+1))=!decide (u (i+1)<u (i+1+1))->parB n u v i s=parB n u v (i+1) s:=λs gs hs hs' e=>by
  have hx:xor (xorK (lowB u v i s) n) (xorK (lowB u v (i+1) s) n)=true:=by
   rw[<-z12,z9z (i:=i) (j:=i+1) (A:=lowB u v (i+1) s i) (B:=lowB u v i s (i+1)) (by omega)]
   ·have hne:=h.nc i (i+1) (by omega) hi (by omega) s hs (zyh hs')
    have e1:decide (i<n)=true:=decide_eq_true (by omega)
    have e2:decide (i+1<n)=true:=decide_eq_true hi
    rw[e1,e2]
    unfold lowB
    by_cases c:hgt u v i s<hgt u v (i+1) s
    ·have c':¬hgt u v (i+1) s<hgt u v i s:=by grind
     rw[decide_eq_true (show spn u i s/\_ from⟨hs,c⟩),decide_eq_false (λk=>c' k.2)];rfl
    ·have c':hgt u v (i+1) s<hgt u v i s:=by grind
     rw[decide_eq_false (λk=>c k.2),decide_eq_true (show spn u (i+1) s/\_ from⟨hs',c'⟩)];rfl
   ·intro k hk
    by_cases k1:k=i
    ·subst k1
     have a1:lowB u v k s k=false:=decide_eq_false (λh=>by grind)
     rw[a1,if_pos rfl];cases lowB u v (k+1) s k<;>rfl
    ·by_cases k2:k=i+1
     ·subst k2
      have a2:lowB u v (i+1) s (i+1)=false:=decide_eq_false (λh=>by grind)
      rw[a2,if_neg k1,if_pos rfl];cases lowB u v i s (i+1)<;>rfl
     ·rw[h.low_at hi hk (.inl rfl) k1 k2 gs hs,h.low_at hi hk (.inr rfl) k1 k2 gs hs',if_neg k1,if_neg k2]
      generalize decide (spn u k (u (i+1))/\hgt u v k (u (i+1))<v (i+1))=z
      cases z<;>rfl
  unfold parB
  rw[e]
  revert hx
  cases xorK (lowB u v i s) n<;>cases xorK (lowB u v (i+1) s) n<;>cases decide (u (i+1)<u (i+1+1))<;>simp
 obtain⟨tl,hl,nl⟩:=ydc n u (u (i+1))
 obtain⟨tr,hr,nr⟩:=ycy n u (u (i+1))
 have l1:=nl.2 i (by omega);have l2:=nl.2 (i+1+1) (by omega)
 have r1:=nr.2 i (by omega);have r2:=nr.2 (i+1+1) (by omega)
 by_cases c1:u i<u (i+1)<;>by_cases c2:u (i+1)<u (i+1+1)
 ·have s1:spn u i tl:=by unfold spn;grind
  have s2:spn u (i+1) tr:=by unfold spn;grind
  exact fin tl tr nl.gen nr.gen s1 s2 (pass tl tr nl nr s1 s2 (by unfold spn;grind) (by unfold spn;grind) (by rw[decide_eq_true c1,decide_eq_true c2]))
 ·have s1:spn u i tl:=by unfold spn;grind
  have s2:spn u (i+1) tl:=by unfold spn;grind
  exact fin tl tl nl.gen nl.gen s1 s2 (back tl nl s1 s2 (by rw[decide_eq_true c1,decide_eq_false c2];rfl))
 ·have s1:spn u i tr:=by unfold spn;grind
  have s2:spn u (i+1) tr:=by unfold spn;grind
  exact fin tr tr nr.gen nr.gen s1 s2 (back tr nr s1 s2 (by rw[decide_eq_false c1,decide_eq_true c2];rfl))
 ·have s1:spn u i tr:=by unfold spn;grind
  have s2:spn u (i+1) tl:=by unfold spn;grind
  exact fin tr tl nr.gen nl.gen s1 s2 (pass tr tl nr nl s1 s2 (by unfold spn;grind) (by unfold spn;grind) (by rw[decide_eq_false c1,decide_eq_false c2]))
end
end Go.Proofs.YthfpmfdiamldoaaGreatDoor.Geo
namespace Go.Proofs.YthfpmfdiamldoaaGreatDoor.Geo
theorem z9h:∀n,xorK (λ_=>false) n=false
 |0=>rfl
 |n+1=>by unfold xorK;rw[z9h n];rfl
section
variable {n:Nat} {u v:Nat->Rat}
theorem ycf {A B s p:Rat} (hA:0<A) (hB:0<B) (h:0<A*B*(p-s)):s<p:=by
 by_cases c:s<p
 ·exact c
 ·exfalso
  have c:=Rat.not_lt.1 c
  have h1:=zmz hA hB
  have h2:=Rat.mul_nonneg (Rat.le_of_lt h1) (show 0<=s-p by grind)
  grind
theorem Swp.first (h:Swp n u v) (hl:∀j,0<j->j<n->u 0<u j) (ht:0<(u 0-u (n-1))*(v 1-v (n-1))-(v 0-v (n-1))*(u 1-u (n-1))):
 ∀t,genr n u t->spn u 0 t->parB n u v 0 t=true:=by
 have h3:=h.n3
 obtain⟨s,hs,ns⟩:=ycy n u (u 0)
 have hu1:=hl 1 (by omega) (by omega)
 have hun:=hl (n-1) (by omega) (by omega)
 have s1:=(ns.2 1 (by omega)).2 hu1
 have en:n-1+1=n:=by omega
 have sp0:spn u 0 s:=by unfold spn;exact .inl ⟨hs,s1⟩
 have key:slo u v 0<slo u v (n-1):=by
  have a0:u (0+1)-u 0≠0:=by show u 1-u 0≠0;grind
  have b0:u (n-1+1)-u (n-1)≠0:=by rw[en,h.cu];grind
  have e1:slo u v 0*(u 1-u 0)=v 1-v 0:=Rat.div_mul_cancel a0
  have e2:slo u v (n-1)*(u (n-1+1)-u (n-1))=v (n-1+1)-v (n-1):=Rat.div_mul_cancel b0
  rw[en,h.cu,h.cv] at e2
  refine ycf (A:=u 1-u 0) (B:=u (n-1)-u 0) (by grind) (by grind) ?_
  generalize slo u v 0=a at*
  generalize slo u v (n-1)=b at*
  generalize u (n-1)=U at*
  generalize v (n-1)=V at*
  have hv1:v 1=v 0+a*(u 1-u 0):=by rw[e1];grind
  have hvn:V=v 0-b*(u 0-U):=by rw[e2];grind
  rw[hv1,hvn] at ht
  have e:(u 1-u 0)*(U-u 0)*(b-a)=(u 0-U)*(v 0+a*(u 1-u 0)-(v 0-b*(u 0-U)))-(v 0-(v 0-b*(u 0-U)))*(u 1-U):=by grind
  rw[e];exact ht
 have hlow:∀k,k<n->lowB u v 0 s k=(λ_=>false) k:=λk hk=>by
  refine decide_eq_false λ⟨k1,k2⟩=>?_
  by_cases e0:k=0
  ·subst e0;grind
  ·by_cases e1:k=n-1
   ·subst e1
    have f1:=zn7 (u:=u) (v:=v) 0 (u 0) s
    have f2:=zn7 (u:=u) (v:=v) (n-1) (u (n-1+1)) s
    rw[zto] at f1
    rw[h.right (by omega),en,h.cu,h.cv] at f2
    have:=zmz (show 0<slo u v (n-1)-slo u v 0 by grind) (show 0<s-u 0 by grind)
    grind
   ·have t1:=(ns.2 k (by omega)).2 (hl k (by omega) hk)
    have t2:=(ns.2 (k+1) (by omega)).2 (hl (k+1) (by omega) (by omega))
    unfold spn at k1;grind
 have hp:parB n u v 0 s=true:=by
  unfold parB
  rw[zpq hlow,z9h,decide_eq_true (show u 0<u (0+1) from hu1)];rfl
 intro t gt st
 rw[h.same (by omega) gt ns.gen st sp0,hp]
theorem Swp.all (h:Swp n u v) (hl:∀j,0<j->j<n->u 0<u j) (ht:0<(u 0-u (n-1))*(v 1-v (n-1))-(v 0-v (n-1))*(u 1-u (n-1))):
 ∀i,i<n->∀t,genr n u t->spn u i t->parB n u v i t=true
 |0,_=>h.first hl ht
 |i+1,hi=>h.corner hi (h.all hl ht i (by omega))
end
def sumK (f:Nat->Rat):Nat->Rat
 |0=>0
 |k+1=>sumK f k+f k
theorem zhe {f g:Nat->Rat}:∀{n:Nat},(∀k,k<n->f k=g k)->sumK f n=sumK g n
 |0,_=>rfl
 |n+1,h=>by unfold sumK;rw[zhe (n:=n) λk hk=>h k (by omega),h n (by omega)]
theorem z13 (f g:Nat->Rat):∀n,sumK (λk=>f k-g k) n=sumK f n-sumK g n
 |0=>by unfold sumK;grind
 |n+1=>by unfold sumK;rw[z13 f g n];grind
theorem ztp (c:Rat) (f:Nat->Rat):∀n,sumK (λk=>c*f k) n=c*sumK f n
 |0=>by unfold sumK;grind
 |n+1=>by unfold sumK;rw[ztp c f n];grind
theorem z8s (e:Nat->Rat):∀n,sumK (λk=>e (k+1)-e k) n=e n-e 0
 |0=>by unfold sumK;grind
 |n+1=>by unfold sumK;rw[z8s e n];grind
def sumL:List (Rat×Bool)->Rat
 |[]=>0
 |p::r=>sumL r+(if p.2=true then-p.1 else p.1)
def lowL (y:Rat):List (Rat×Bool)->Bool
 |[]=>false
 |p::r=>xor (lowL y r) (decide (p.1<y))
def sgnL:List (Rat×Bool)->Int
 |[]=>0
 |p::r=>sgnL r+(if p.2=true then 1 else-1)
theorem zkk (p:Rat×Bool) (r:List (Rat×Bool)):sumL (p::r)=sumL r+(if p.2=true then-p.1 else p.1):=rfl
theorem ziq (y:Rat) (p:Rat×Bool) (r:List (Rat×Bool)):lowL y (p::r)=xor (lowL y r) (decide (p.1<y)):=rfl
theorem zj9 (p:Rat×Bool) (r:List (Rat×Bool)):sgnL (p::r)=sgnL r+(if p.2=true then 1 else-1):=rfl
theorem ybu {a b:List (Rat×Bool)} (h:a.Perm b):sumL a=sumL b:=by
 induction h with
 |nil=>rfl
 |cons x _ ih=>rw[zkk,zkk,ih]
 |swap x y l=>rw[zkk,zkk,zkk,zkk];grind
 |trans _ _ h1 h2=>exact h1.trans h2
theorem ybv {a b:List (Rat×Bool)} (h:a.Perm b):sgnL a=sgnL b:=by
 induction h with
 |nil=>rfl
 |cons x _ ih=>rw[zj9,zj9,ih]
 |swap x y l=>rw[zj9,zj9,zj9,zj9];omega
 |trans _ _ h1 h2=>exact h1.trans h2
theorem ybw (z:Rat) {a b:List (Rat×Bool)} (h:a.Perm b):lowL z a=lowL z b:=by
 induction h with
 |nil=>rfl
 |cons x _ ih=>rw[ziq,ziq,ih]
 |swap x y l=>
  rw[ziq,ziq,ziq,ziq]
  cases lowL z l<;>cases decide (x.1<z)<;>cases decide (y.1<z)<;>rfl
 |trans _ _ h1 h2=>exact h1.trans h2
theorem zsf (z:Rat):∀{l:List (Rat×Bool)},(∀p∈l,¬p.1<z)->lowL z l=false
 |[],_=>rfl
 |p::r,h=>by
  rw[ziq,zsf z λq hq=>h q (List.mem_cons_of_mem _ hq),decide_eq_false (h p yD)];rfl
theorem z8t:∀(l:List (Rat×Bool)),l.Pairwise (λp q=>p.1<q.1)->(∀p∈l,p.2=!lowL p.1 l)->sgnL l=0->0<=sumL l
 |[],_,_,_=>by unfold sumL;grind
 |[p],_,h,hs=>by
  have this:p.2=true:=by
   rw[h p yD,zsf p.1 (by intro q hq;rw[List.mem_singleton.1 hq];grind)];rfl
  rw[zj9,if_pos this] at hs
  have e0:sgnL []=0:=rfl
  omega
 |p::q::r,hp,h,hs=>by
  rw[List.pairwise_cons] at hp
  obtain⟨hp1,hp2⟩:=hp
  have hp3:=hp2
  rw[List.pairwise_cons] at hp2
  obtain⟨hq1,hr⟩:=hp2
  have e1:p.2=true:=by
   rw[h p yD,zsf p.1 (by
    intro x hx
    rcases List.mem_cons.1 hx with rfl|hx
    ·grind
    ·have:=hp1 x hx;grind)];rfl
  have e2:q.2=false:=by
   rw[h q (List.mem_cons_of_mem _ yD),ziq]
   rw[zsf q.1 (by
    intro x hx
    rcases List.mem_cons.1 hx with rfl|hx
    ·grind
    ·have:=hq1 x hx;grind),decide_eq_true (hp1 q yD)];rfl
  have ih:=z8t r hr (λx hx=>by
   rw[h x (List.mem_cons_of_mem _ (List.mem_cons_of_mem _ hx))]
   rw[ziq,ziq,decide_eq_true (hp1 x (List.mem_cons_of_mem _ hx)),decide_eq_true (hq1 x hx)]
   cases lowL x.1 r<;>rfl) (by
   rw[zj9,zj9,e1,e2] at hs
   simp at hs;omega)
  have hlt:=hp1 q yD
  rw[zkk,zkk,e1,e2]
  simp
  grind
end Go.Proofs.YthfpmfdiamldoaaGreatDoor.Geo
namespace Go.Proofs.YthfpmfdiamldoaaGreatDoor.Geo
def lstK (u v:Nat->Rat) (t:Rat):Nat->List (Rat×Bool)
 |0=>[]
 |k+1=>if spn u k t then(hgt u v k t,decide (u k<u (k+1)))::lstK u v t k else lstK u v t k
section
variable {n:Nat} {u v:Nat->Rat} {t:Rat}
theorem yax:∀n,sumL (lstK u v t n)=sumK (λk=>if spn u k t then(if u k<u (k+1) then-hgt u v k t else hgt u v k t) else 0) n
 |0=>rfl
 |n+1=>by
  unfold lstK sumK
  rw[<-yax n]
  by_cases c:spn u n t
  ·rw[if_pos c,if_pos c,zkk]
   by_cases d:u n<u (n+1)
   ·rw[if_pos (by simpa using d),if_pos d]
   ·rw[if_neg (by simpa using d),if_neg d]
  ·rw[if_neg c,if_neg c];grind
theorem yay (y:Rat):∀n,lowL y (lstK u v t n)=xorK (λk=>decide (spn u k t/\hgt u v k t<y)) n
 |0=>rfl
 |n+1=>by
  unfold lstK xorK
  rw[<-yay y n]
  by_cases c:spn u n t
  ·rw[if_pos c,ziq]
   congr 1
   rw[decide_eq_decide]
   exact⟨λk=>⟨c,k⟩,λk=>k.2⟩
  ·rw[if_neg c,decide_eq_false (λk=>c k.1)]
   cases lowL y (lstK u v t n)<;>rfl
theorem zyi {p:Rat×Bool}:∀{n:Nat},p∈lstK u v t n->∃k,k<n/\spn u k t/\p=(hgt u v k t,decide (u k<u (k+1)))
 |0,h=>by cases h
 |n+1,h=>by
  unfold lstK at h
  split at h
  ·rename_i c
   rcases List.mem_cons.1 h with rfl|h
   ·exact⟨n,by omega,c,rfl⟩
   ·obtain⟨k,h1,h2⟩:=zyi h
    exact⟨k,by omega,h2⟩
  ·obtain⟨k,h1,h2⟩:=zyi h
   exact⟨k,by omega,h2⟩
theorem yaz:∀{n:Nat},genr n u t->sgnL (lstK u v t n)=(if t<u n then 1 else 0)-(if t<u 0 then 1 else 0)
 |0,_=>by show(0:Int)=_;omega
 |n+1,g=>by
  have ih:=yaz (n:=n) λm hm=>g m (by omega)
  have g1:=g n (by omega);have g2:=g (n+1) (by omega)
  unfold lstK
  by_cases c:spn u n t
  ·rw[if_pos c,zj9,ih]
   unfold spn at c
   rcases c with⟨c1,c2⟩|⟨c1,c2⟩
   ·have a1:¬t<u n:=by grind
    have a2:u n<u (n+1):=by grind
    rw[if_neg a1,if_pos c2,if_pos (decide_eq_true a2)];omega
   ·have a1:¬t<u (n+1):=by grind
    have a2:¬u n<u (n+1):=by grind
    rw[if_pos c2,if_neg a1,if_neg (show ¬decide (u n<u (n+1))=true by simpa using a2)];omega
  ·rw[if_neg c,ih]
   unfold spn at c
   have:t<u n↔t<u (n+1):=by grind
   by_cases d:t<u n
   ·rw[if_pos d,if_pos (this.1 d)]
   ·rw[if_neg d,if_neg (λk=>d (this.2 k))]
theorem Swp.lst_dif (h:Swp n u v):∀{m:Nat},m<=n->((lstK u v t m).map Prod.fst).Nodup
 |0,_=>List.nodup_nil
 |m+1,hm=>by
  have ih:=h.lst_dif (m:=m) (by omega)
  unfold lstK
  split
  ·rename_i c
   rw[List.map_cons,List.nodup_cons]
   refine⟨λhin=>?_,ih⟩
   obtain⟨p,hp,e⟩:=List.mem_map.1 hin
   obtain⟨k,hk,hs,rfl⟩:=zyi hp
   exact h.nc m k (by omega) (by omega) (by omega) t c (zyh hs) e.symm
  ·exact ih
theorem Swp.pos (h:Swp n u v) (hp:∀i,i<n->∀t,genr n u t->spn u i t->parB n u v i t=true) (g:genr n u t):0<=sumL (lstK u v t n):=by
 have hperm:=List.mergeSort_perm (lstK u v t n) (λa b=>decide (a.1<=b.1))
 have hsort:=List.pairwise_mergeSort (le:=λ(a b:Rat×Bool)=>decide (a.1<=b.1)) (λa b c h1 h2=>by
  simp only[decide_eq_true_eq] at*;grind) (λa b=>by
  simp only[Bool.or_eq_true,decide_eq_true_eq];grind) (lstK u v t n)
 generalize (lstK u v t n).mergeSort (λa b=>decide (a.1<=b.1))=M at*
 rw[<-ybu hperm]
 have hnd:(M.map Prod.fst).Nodup:=(hperm.map Prod.fst).nodup_iff.2 (h.lst_dif (zN _))
 refine z8t M ?_ (λp hpM=>?_) ?_
 ·have h2:M.Pairwise (λa b=>a.1≠b.1):=List.pairwise_map.1 hnd
  refine(hsort.and h2).imp ?_
  rintro a b ⟨h1,h2⟩
  have h1:=of_decide_eq_true h1
  grind
 ·obtain⟨k,hk,hs,rfl⟩:=zyi (hperm.mem_iff.1 hpM)
  have e:=hp k hk t g hs
  rw[ybw _ hperm,yay]
  unfold parB at e
  show decide (u k<u (k+1))=!xorK (lowB u v k t) n
  revert e
  cases xorK (lowB u v k t) n<;>cases decide (u k<u (k+1))<;>simp
 ·rw[ybv hperm,yaz g,h.cu];omega
end
end Go.Proofs.YthfpmfdiamldoaaGreatDoor.Geo
namespace Go.Proofs.YthfpmfdiamldoaaGreatDoor.Geo
def cntK (p:Nat->Bool):Nat->Nat
 |0=>0
 |k+1=>cntK p k+(if p k=true then 1 else 0)
theorem ya0 {p q:Nat->Bool}:∀{n:Nat},(∀k,k<n->p k=true->q k=true)->cntK p n<=cntK q n
 |0,_=>zN _
 |n+1,h=>by
  have ih:=ya0 (n:=n) λk hk=>h k (by omega)
  unfold cntK
  by_cases c:p n=true
  ·rw[if_pos c,if_pos (h n (by omega) c)];omega
  ·rw[if_neg c];split<;>omega
theorem z9b {p q:Nat->Bool} {j:Nat} (hj:q j=true) (hp:¬p j=true):∀{n:Nat},j<n->(∀k,k<n->p k=true->q k=true)->cntK p n<cntK q n
 |0,h,_=>absurd h (by omega)
 |n+1,hn,h=>by
  unfold cntK
  by_cases e:j=n
  ·subst e
   have ih:=ya0 (n:=j) λk hk=>h k (by omega)
   rw[if_neg hp,if_pos hj];omega
  ·have ih:=z9b hj hp (n:=n) (by omega) λk hk=>h k (by omega)
   by_cases c:p n=true
   ·rw[if_pos c,if_pos (h n (by omega) c)];omega
   ·rw[if_neg c];split<;>omega
def lowU (u:Nat->Rat) (k:Nat):Rat:=if u k<u (k+1) then u k else u (k+1)
def zsi (u:Nat->Rat) (k:Nat):Rat:=if u k<u (k+1) then u (k+1) else u k
def zly (u:Nat->Rat) (k:Nat) (t:Rat):Rat:=if t<=lowU u k then lowU u k else if zsi u k<=t then zsi u k else t
def swpT (u v:Nat->Rat) (k:Nat) (t:Rat):Rat:=
 (if u k<u (k+1) then-1 else 1)*((hgt u v k (lowU u k)+hgt u v k (zly u k t))*(zly u k t-lowU u k))
section
variable {n:Nat} {u v:Nat->Rat}
theorem Swp.slab (h:Swp n u v) {k:Nat} (hk:k<n) {a b:Rat} (hab:a<b) (h1:¬(a<u k/\u k<b)) (h2:¬(a<u (k+1)/\u (k+1)<b)):
 swpT u v k b-swpT u v k a=(b-a)*2*(if spn u k ((a+b)/2) then(if u k<u (k+1) then-hgt u v k ((a+b)/2) else hgt u v k ((a+b)/2)) else 0):=by
 have n5:=h.ne hk
 have f1:=zn7 (u:=u) (v:=v) k (lowU u k) a
 have f2:=zn7 (u:=u) (v:=v) k (lowU u k) b
 have f3:=zn7 (u:=u) (v:=v) k (lowU u k) ((a+b)/2)
 by_cases c:spn u k ((a+b)/2)
 ·have c0:=c
  rw[if_pos c]
  have l1:lowU u k<=a:=by unfold spn at c0;unfold lowU;split<;>grind
  have l2:b<=zsi u k:=by unfold spn at c0;unfold zsi;split<;>grind
  have ea:zly u k a=a:=by unfold zly;split<;>grind
  have eb:zly u k b=b:=by unfold zly;split<;>grind
  unfold swpT
  rw[ea,eb,f1,f2,f3]
  generalize hgt u v k (lowU u k)=H
  generalize lowU u k=L
  generalize slo u v k=s
  split<;>grind
 ·rw[if_neg c]
  have e:zly u k a=zly u k b:=by
   unfold spn at c
   unfold zly lowU zsi
   by_cases d:u k<u (k+1)
   ·rw[if_pos d,if_pos d];grind
   ·rw[if_neg d,if_neg d];grind
  unfold swpT
  rw[e];grind
theorem ybx (k:Nat) {t:Rat} (h1:t<u k) (h2:t<u (k+1)):swpT u v k t=0:=by
 have e:zly u k t=lowU u k:=by unfold zly lowU;split<;>grind
 unfold swpT
 rw[e];grind
theorem Swp.stop (h:Swp n u v) {k:Nat} (hk:k<n) {t:Rat} (h1:u k<t) (h2:u (k+1)<t):swpT u v k t=(u k-u (k+1))*(v k+v (k+1)):=by
 have e:zly u k t=zsi u k:=by unfold zly lowU zsi;split<;>grind
 have r1:=zto (u:=u) (v:=v) k
 have r2:=h.right hk
 unfold swpT
 rw[e]
 unfold lowU zsi
 split
 ·rw[r1,r2];grind
 ·rw[r1,r2];grind
def swpF (n:Nat) (u v:Nat->Rat) (t:Rat):Rat:=sumK (λk=>swpT u v k t) n
theorem Swp.rise (h:Swp n u v) (hp:∀i,i<n->∀t,genr n u t->spn u i t->parB n u v i t=true):
 ∀(N:Nat) (a b:Rat),a<b->cntK (λm=>decide (a<u m/\u m<b)) (n+1)<=N->swpF n u v a<=swpF n u v b
 |N,a,b,hab,hN=>by
  by_cases c:∃m,m<n+1/\a<u m/\u m<b
  ·obtain⟨m,hm,m1,m2⟩:=c
   have l1:=z9b (p:=λj=>decide (a<u j/\u j<u m)) (q:=λj=>decide (a<u j/\u j<b)) (j:=m) (decide_eq_true ⟨m1,m2⟩) (by simp only[decide_eq_true_eq];grind) hm (λk _ hk=>by
    simp only[decide_eq_true_eq] at*;grind)
   have l2:=z9b (p:=λj=>decide (u m<u j/\u j<b)) (q:=λj=>decide (a<u j/\u j<b)) (j:=m) (decide_eq_true ⟨m1,m2⟩) (by simp only[decide_eq_true_eq];grind) hm (λk _ hk=>by
    simp only[decide_eq_true_eq] at*;grind)
   match N,hN with
   |0,hN=>omega
   |N+1,hN=>
    exact Rat.le_trans (h.rise hp N a (u m) m1 (by omega)) (h.rise hp N (u m) b m2 (by omega))
  ·have hno:∀m,m<=n->¬(a<u m/\u m<b):=λm hm k=>c ⟨m,by omega,k⟩
   have g:genr n u ((a+b)/2):=λm hm e=>hno m hm (by grind)
   have e:swpF n u v b-swpF n u v a=(b-a)*2*sumL (lstK u v ((a+b)/2) n):=by
    unfold swpF
    rw[<-z13,yax,<-ztp]
    exact zhe λk hk=>h.slab hk hab (hno k (by omega)) (hno (k+1) (by omega))
   have p1:=h.pos hp g
   have p2:=Rat.mul_nonneg (show 0<=(b-a)*2 by grind) p1
   grind
theorem ybb (u:Nat->Rat):∀n,∃t,∀m,m<n->u m<t
 |0=>⟨0,λm h=>absurd h (by omega)⟩
 |n+1=>by
  obtain⟨t,h⟩:=ybb u n
  by_cases c:u n<t
  ·refine⟨t,λm hm=>?_⟩
   by_cases e:m=n
   ·subst e;exact c
   ·exact h m (by omega)
  ·refine⟨u n+1,λm hm=>?_⟩
   by_cases e:m=n
   ·subst e;grind
   ·have:=h m (by omega);grind
theorem ydd (u:Nat->Rat) (n:Nat):∃t,∀m,m<n->t<u m:=by
 obtain⟨t,h⟩:=ybb (λm=> -u m) n
 exact⟨-t,λm hm=>by have:=h m hm;grind⟩
theorem Swp.area (h:Swp n u v) (hl:∀j,0<j->j<n->u 0<u j) (ht:0<(u 0-u (n-1))*(v 1-v (n-1))-(v 0-v (n-1))*(u 1-u (n-1))):
 0<=sumK (λk=>u k*v (k+1)-u (k+1)*v k) n:=by
 have hp:=h.all hl ht
 obtain⟨a,ha⟩:=ydd u (n+1)
 obtain⟨b,hb⟩:=ybb u (n+1)
 have hab:a<b:=by have:=ha 0 (by omega);have:=hb 0 (by omega);grind
 have hr:=h.rise hp _ a b hab (zN _)
 have e0:swpF n u v a=0:=by
  have:swpF n u v a=sumK (λk=>(0:Rat)*0) n:=zhe λk hk=>by rw[ybx k (ha k (by omega)) (ha (k+1) (by omega))];grind
  rw[this,ztp];grind
 have e1:swpF n u v b=sumK (λk=>(u k-u (k+1))*(v k+v (k+1))) n:=zhe λk hk=>h.stop hk (hb k (by omega)) (hb (k+1) (by omega))
 have e2:sumK (λk=>(u k*v (k+1)-u (k+1)*v k)-(u k-u (k+1))*(v k+v (k+1))) n=0:=by
  have:=z8s (λk=>u k*v k) n
  rw[h.cu,h.cv] at this
  have e:sumK (λk=>(u k*v (k+1)-u (k+1)*v k)-(u k-u (k+1))*(v k+v (k+1))) n=sumK (λk=>u (k+1)*v (k+1)-u k*v k) n:=zhe λk _=>by grind
  rw[e,this];grind
 rw[z13] at e2
 grind
end
end Go.Proofs.YthfpmfdiamldoaaGreatDoor.Geo
namespace Go.Proofs.YthfpmfdiamldoaaGreatDoor.Geo
theorem zh3 {a b c:Pt} (h:turn a b c≠0):meet a b b c=1:=by
 unfold meet
 rw[if_pos (.inr (.inl h)),if_pos]
 rw[zc8,zcz];simp
theorem zzm {a b c:Pt} (h:turn a b c=0) (h1:a≠b) (h2:b≠c) (h3:c≠a) (k1:meet a b b c=1) (k2:meet b c c a=1) (_:meet a b c a=1):False:=by
 have t1:turn b c a=0:=by rw[zj3];exact h
 have t2:turn c a b=0:=by rw[zj3];exact t1
 unfold meet at k1 k2
 rw[if_neg (by simp[zc8,zcz,h,t1])] at k1
 rw[if_neg (by simp[zc8,zcz,t1,t2])] at k2
 have o1:=zas a b;have o2:=zas b c;have o3:=zas c a
 have p1:=zas b a;have p2:=zas c b;have p3:=zas a c
 have s1:=zgw a;have s2:=zgw b;have s3:=zgw c
 have u1:∀{p q:Pt},p≠q->ordP p q≠0:=λ{p q} h e=>by have:=zas p q;grind
 have v1:=u1 h1;have v2:=u1 h2;have v3:=u1 h3
 unfold low high at k1 k2
 rcases o1 with⟨x1,o1⟩|⟨x1,o1⟩|⟨x1,o1⟩
 ·have q1:ordP b a=1:=by grind
  rcases o2 with⟨x2,o2⟩|⟨x2,o2⟩|⟨x2,o2⟩
  ·have q2:ordP c b=1:=by grind
   have q3:ordP a c= -1:=by grind
   have q4:ordP c a=1:=by grind
   first|(simp[o1,o2,q1,q2,s2] at k1;done)|(simp[o1,o2,q4,s3] at k2;done)
  ·exact absurd o2 v2
  ·have q2:ordP c b= -1:=by grind
   rcases o3 with⟨x3,o3⟩|⟨x3,o3⟩|⟨x3,o3⟩
   ·have q3:ordP a c=1:=by grind
    first|(simp[o1,o2,o3,s2] at k1;done)|(simp[o1,o2,q1,q2,q3,o3,s1,s2,s3] at k2;done)
   ·exact absurd o3 v3
   ·have q3:ordP a c= -1:=by grind
    first|(simp[o1,o2,q2,o3,s2] at k1;done)|(simp[o1,o2,q1,q2,q3,o3,s1,s2,s3] at k2;done)
 ·exact absurd o1 v1
 ·have q1:ordP b a= -1:=by grind
  rcases o2 with⟨x2,o2⟩|⟨x2,o2⟩|⟨x2,o2⟩
  ·have q2:ordP c b=1:=by grind
   rcases o3 with⟨x3,o3⟩|⟨x3,o3⟩|⟨x3,o3⟩
   ·have q3:ordP a c=1:=by grind
    first|(simp[o1,o2,o3,s2] at k1;done)|(simp[o1,o2,q1,q2,q3,o3,s1,s2,s3] at k2;done)
   ·exact absurd o3 v3
   ·have q3:ordP a c= -1:=by grind
    first|(simp[o1,o2,q1,o3,s2] at k1;done)|(simp[o1,o2,q1,q2,q3,o3,s1,s2,s3] at k2;done)
  ·exact absurd o2 v2
  ·have q2:ordP c b= -1:=by grind
   have q3:ordP a c=1:=by grind
   have q4:ordP c a= -1:=by grind
   first|(simp[o1,o2,q1,q2,s2] at k1;done)|(simp[o1,o2,q2,q4,s3] at k2;done)
theorem zt8 (a b c:Pt):(a≠b/\b≠c/\c≠a/\meet a b b c=1/\meet a b c a=1/\meet b c c a=1)↔turn a b c≠0:=by
 constructor
 ·rintro⟨h1,h2,h3,k1,k2,k3⟩ h
  exact zzm h h1 h2 h3 k1 k3 k2
 ·intro h
  have t1:turn b c a≠0:=by rw[zj3];exact h
  have t2:turn c a b≠0:=by rw[zj3];exact t1
  refine⟨λe=>h (by subst e;exact zo6 _ _),λe=>h (by subst e;exact zc8 _ _),λe=>h (by subst e;exact zcz _ _),zh3 h,?_,zh3 t1⟩
  rw[zo7];exact zh3 t2
end Go.Proofs.YthfpmfdiamldoaaGreatDoor.Geo
namespace Go.Proofs.YthfpmfdiamldoaaGreatDoor.Geo
theorem z33 {a b c d:Pt} (h1:turn a b c=0) (h2:turn a b d=0) (h3:turn c d a=0) (h4:turn c d b=0):meet a b c d=1-ordP (maxP (low a b) (low c d)) (minP (high a b) (high c d)):=by
 unfold meet
 rw[if_neg (by omega)]
 rfl
theorem z3t (p q:Pt):ordP q p= -ordP p q:=by have:=zas p q;have:=zas q p;grind
theorem z41 {p q:Pt} (h:p≠q):ordP p q= -1\/ordP p q=1:=by have:=zas p q;grind
end Go.Proofs.YthfpmfdiamldoaaGreatDoor.Geo
namespace Go.Proofs.YthfpmfdiamldoaaGreatDoor.Geo
def ptAt (a b:Pt) (m:Rat):Pt:=⟨a.x+m*(b.x-a.x),a.y+m*(b.y-a.y)⟩
def zb7 (a b z:Pt):Prop:=∃m,0<=m/\m<=1/\z=ptAt a b m
theorem zot {a b z:Pt} (h:zb7 a b z):zb7 b a z:=by
 obtain⟨m,h0,h1,rfl⟩:=h
 refine⟨1-m,by grind,by grind,?_⟩
 unfold ptAt
 congr 1<;>grind
theorem zo8 (a b:Pt):zb7 a b a:=⟨0,by grind,by grind,by unfold ptAt;cases a;congr 1<;>grind⟩
theorem zpa (a b:Pt):zb7 a b b:=zot (zo8 b a)
theorem zyj (a b c d:Pt) (m:Rat):cr a b (ptAt c d m)=(1-m)*cr a b c+m*cr a b d:=by unfold cr ptAt;grind
theorem ya1 (a b:Pt):cr a b a=0:=by unfold cr;grind
theorem z2k (a b:Pt):cr a b b=0:=by unfold cr;grind
theorem ybc {a b z:Pt} (h:zb7 a b z):cr a b z=0:=by
 obtain⟨m,_,_,rfl⟩:=h
 rw[zyj,ya1,z2k];grind
theorem zjn {p q:Pt} (h1:p.x=q.x) (h2:p.y=q.y):p=q:=by cases p;cases q;simp_all
theorem z9i (a b:Pt):(le a b/\low a b=a/\high a b=b)\/(le b a/\low a b=b/\high a b=a):=by
 unfold low high le
 have:=zas a b;have:=zas b a
 by_cases c:ordP a b>0
 ·rw[if_pos c,if_pos c];exact .inr ⟨by grind,rfl,rfl⟩
 ·rw[if_neg c,if_neg c];exact .inl ⟨by grind,rfl,rfl⟩
theorem ycz {a b:Pt} (h:le a b) {m:Rat} (h0:0<=m) (h1:m<=1):le a (ptAt a b m)/\le (ptAt a b m) b:=by
 by_cases e0:m=0
 ·have:ptAt a b m=a:=by rw[e0];unfold ptAt;exact zjn (by grind) (by grind)
  rw[this];exact⟨zhp _,h⟩
 ·by_cases e1:m=1
  ·have:ptAt a b m=b:=by rw[e1];unfold ptAt;exact zjn (by grind) (by grind)
   rw[this];exact⟨h,zhp _⟩
  ·have p0:0<m:=by grind
   have p1:0<1-m:=by grind
   have k:a.x<b.x\/(a.x=b.x/\a.y<=b.y):=by
    unfold le at h
    have:=zas a b
    grind
   have c1:=zas a (ptAt a b m)
   have c2:=zas (ptAt a b m) b
   unfold le
   rcases k with k|⟨k1,k2⟩
   ·have q1:=zmz p0 (show 0<b.x-a.x by grind)
    have q2:=zmz p1 (show 0<b.x-a.x by grind)
    have ex:(ptAt a b m).x=a.x+m*(b.x-a.x):=rfl
    grind
   ·have q1:=Rat.mul_nonneg h0 (show 0<=b.y-a.y by grind)
    have q2:=Rat.mul_nonneg (show 0<=1-m by grind) (show 0<=b.y-a.y by grind)
    have ex:(ptAt a b m).x=a.x+m*(b.x-a.x):=rfl
    have ey:(ptAt a b m).y=a.y+m*(b.y-a.y):=rfl
    have ex':(ptAt a b m).x=a.x:=by rw[ex,k1];grind
    grind
theorem z8u {a b z:Pt} (h:zb7 a b z):le (low a b) z/\le z (high a b):=by
 rcases z9i a b with⟨h1,e1,e2⟩|⟨h1,e1,e2⟩
 ·obtain⟨m,h0,h2,rfl⟩:=h
  rw[e1,e2];exact ycz h1 h0 h2
 ·obtain⟨m,h0,h2,rfl⟩:=zot h
  rw[e1,e2];exact ycz h1 h0 h2
theorem z90 {P Q w:Rat} (h0:0<=w) (h1:w<=1) (e:(1-w)*P+w*Q=0):cmpR P 0*cmpR Q 0<=0:=by
 have c1:=zaw P 0;have c2:=zaw Q 0
 rcases c1 with⟨p,e1⟩|⟨p,e1⟩|⟨p,e1⟩<;>rcases c2 with⟨q,e2⟩|⟨q,e2⟩|⟨q,e2⟩<;>rw[e1,e2]<;>first|decide|(exfalso)
 ·have q1:=Rat.mul_nonneg (show 0<=1-w by grind) (show 0<= -P by grind)
  have q2:=Rat.mul_nonneg h0 (show 0<= -Q by grind)
  by_cases c:w=0
  ·subst c;grind
  ·have:=zmz (show 0<w by grind) (show 0< -Q by grind);grind
 ·have q1:=Rat.mul_nonneg (show 0<=1-w by grind) (show 0<=P by grind)
  have q2:=Rat.mul_nonneg h0 (show 0<=Q by grind)
  by_cases c:w=0
  ·subst c;grind
  ·have:=zmz (show 0<w by grind) (show 0<Q by grind);grind
theorem z2l {a b c d z:Pt} (h1:zb7 a b z) (h2:zb7 c d z):le (maxP (low a b) (low c d)) z/\le z (minP (high a b) (high c d)):=
 ⟨zt6.2 ⟨(z8u h1).1,(z8u h2).1⟩,zt7.2 ⟨(z8u h1).2,(z8u h2).2⟩⟩
theorem zl0 {a b c d z:Pt} (h1:zb7 a b z) (h2:zb7 c d z):meet a b c d≠0:=by
 by_cases hz:turn a b c=0/\turn a b d=0/\turn c d a=0/\turn c d b=0
 ·obtain⟨t1,t2,t3,t4⟩:=hz
  rw[z33 t1 t2 t3 t4]
  obtain⟨k1,k2⟩:=z2l h1 h2
  have:=le_trans k1 k2
  unfold le at this
  omega
 ·have s1:turn a b c*turn a b d<=0:=by
   have e:=ybc h1
   obtain⟨w,w0,w1,rfl⟩:=h2
   rw[zyj] at e
   rw[zgk,zgk]
   exact z90 w0 w1 e
  have s2:turn c d a*turn c d b<=0:=by
   have e:=ybc h2
   obtain⟨w,w0,w1,rfl⟩:=h1
   rw[zyj] at e
   rw[zgk,zgk]
   exact z90 w0 w1 e
  unfold meet
  have hor:turn a b c≠0\/turn a b d≠0\/turn c d a≠0\/turn c d b≠0:=by
   by_cases q1:turn a b c=0
   ·by_cases q2:turn a b d=0
    ·by_cases q3:turn c d a=0
     ·exact .inr (.inr (.inr λq4=>hz ⟨q1,q2,q3,q4⟩))
     ·exact .inr (.inr (.inl q3))
    ·exact .inr (.inl q2)
   ·exact .inl q1
  rw[if_pos hor,if_pos ⟨s1,s2⟩]
  decide
theorem znu {a b d z:Pt} (h1:zb7 a b z) (h2:zb7 b d z) (hz:z≠b):meet a b b d≠1:=by
 have t1:turn a b b=0:=zc8 a b
 have t2:turn a b d=0:=by
  rw[zgy]
  have e:=ybc h1
  obtain⟨w,w0,w1,rfl⟩:=h2
  rw[zyj,z2k] at e
  have hw:w≠0:=λk=>hz (by rw[k];exact zjn (by unfold ptAt;grind) (by unfold ptAt;grind))
  have e:w*cr a b d=0:=by grind
  rcases Rat.mul_eq_zero.1 e with k|k
  ·exact absurd k hw
  ·exact k
 have t3:turn b d a=0:=by rw[zj3];exact t2
 have t4:turn b d b=0:=zcz b d
 rw[z33 t1 t2 t3 t4]
 obtain⟨k1,k2⟩:=z2l h1 h2
 obtain⟨k3,k4⟩:=z2l (zpa a b) (zo8 b d)
 intro e
 have e0:ordP (maxP (low a b) (low b d)) (minP (high a b) (high b d))=0:=by omega
 have e1:maxP (low a b) (low b d)=minP (high a b) (high b d):=by
  have:=zas (maxP (low a b) (low b d)) (minP (high a b) (high b d));grind
 rw[e1] at k1 k3
 exact hz (le_antisymm (le_trans k2 k3) (le_trans k4 k1))
end Go.Proofs.YthfpmfdiamldoaaGreatDoor.Geo
