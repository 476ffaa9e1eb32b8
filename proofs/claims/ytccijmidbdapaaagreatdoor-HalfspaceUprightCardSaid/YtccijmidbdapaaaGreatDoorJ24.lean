/- halfspace.boundaries: the iterator's contract. -/
import Derived.Test.YtccijmidbdapaaaGreatDoorJ21
import Derived.Test.YtccijmidbdapaaaGreatDoorJ22
set_option maxRecDepth 100000
set_option maxHeartbeats 8000000
open Go renaming World → zA
open Go.Proofs.Tryz renaming prog → zF
open Go.IntWalk renaming i64_in → zI
namespace Go.Proofs.YtccijmidbdapaaaGreatDoor
section
open Go.RowKit Go.Shelf Lib Str Limb
attribute [local go_sem] Oper.semAt_some
def h12 (X Y Z:Nat->List UInt8) (D:Nat->Value):Array Value:= #[St (X 0),St (Y 0),St (Z 0),D 0,St (X 1),St (Y 1),St (Z 1),D 1,St (X 2),St (Y 2),St (Z 2),D 2]
theorem zh8 (v:Array Value) (w:zA) (h:∃a b c d e f g h i j k l,v= #[a,b,c,d,e,f,g,h,i,j,k,l]):
 Calls zF 56 #[.agg v] w λe w'=>e=.returned (.func (.func 102) #[] #[.pointer (some ⟨w.heap.size,0,none⟩)])/\w.alloc (.cells v 107)=w':=by
 obtain⟨a,b,c,d,e,f,g,h,i,j,k,l,rfl⟩:=h
 go_enter Tryz.func56,Tryz.ntmps56
 go_wp2
 go_ret
 exact⟨rfl,rfl⟩
theorem zfr {W:zA} {Bs:Nat} {t:TypeId} {X Y Z:Nat->List UInt8} {D:Nat->Value} (h:W.heap[Bs]? =some (.cells (h12 X Y Z D) t (0,0))) (j:Nat) (hj:j<3):
 W.cell? ⟨Bs,j*4,none⟩=some (St (X j))/\W.cell? ⟨Bs,j*4+1,none⟩=some (St (Y j))/\W.cell? ⟨Bs,j*4+2,none⟩=some (St (Z j))/\W.cell? ⟨Bs,j*4+3,none⟩=some (D j):=by
 refine⟨?_,?_,?_,?_⟩<;>(rw[Go.Joins.cell_of_block h];match j,hj with|0,_|1,_|2,_=>rfl)
def twoH (X Y Z:Nat->List UInt8) (D:Nat->Value) (i j:Nat):Value:=.agg #[St (X i),St (Y i),St (Z i),D i,St (X j),St (Y j),St (Z j),D j]
theorem zom (n:Nat) (hn:1<=n) (Bs:Nat) (X Y Z:Nat->List UInt8) (D:Nat->Value) (hD:∀i,∃q m c,D i=.slice q m c) (t:TypeId) (Rd:zA->Prop) (hRd:∀W,Rd W->W.heap[Bs]? =some (.cells (h12 X Y Z D) t (0,0))):
 IterC Fence.wide n zF 102 #[.pointer (some ⟨Bs,0,none⟩)] Rd (λk args=>args= #[I k,twoH X Y Z D ((k+1)%3) ((k+2)%3)]) 3:=by
 intro lp J Jx W hJr hJb hY h0
 refine callsIn_of_wp Tryz.func102 rfl trivial ?_ rfl
 simp only[Tryz.ntmps102,List.size_toArray,List.length_cons,List.length_nil,Nat.reduceAdd,Nat.reduceSub,Array.replicate_succ,Array.replicate_zero,List.push_toArray,List.append_toArray,List.nil_append,List.cons_append]
 have HRd:=hid λk W h=>hRd W (hJr k W h);clear hRd hJr
 have HY:=hid hY;clear hY
 have HJB:=hid hJb;clear hJb
 gi_wp2
 gi_loopw [4] (λi wr=>∃(k:Nat),k<=3/\i=.int .i64 (k:Int)/\Hid (J k wr))
  (λi _=>3-(RowKit.intOf i).toNat)
 case atStart=>exact⟨0,Nat.zero_le _,rfl,h0⟩
 case round=>
  obtain⟨k,hk,rfl,hJ⟩:=hrel
  by_cases hlt:k<3
  ·have HC:=HRd.out k wr hJ.out
   have hk1:(k+1)%3<3:=Nat.mod_lt _ (by omega)
   have hk2:(k+2)%3<3:=Nat.mod_lt _ (by omega)
   obtain⟨c0,c1',c2',c3⟩:=zfr HC _ hk1
   obtain⟨d0,d1,d2,d3⟩:=zfr HC _ hk2
   have HY1:=hid λW h=>HY.out k #[I k,twoH X Y Z D ((k+1)%3) ((k+2)%3)] W h hlt rfl
   unfold twoH at HY1
   have hm1:Int.tmod ((k:Int)+1) 3=((k+1)%3:Nat):=by
    rw[show((k:Int)+1)=((k+1:Nat):Int) by omega];rfl
   have hm2:Int.tmod ((k:Int)+2) 3=((k+2)%3:Nat):=by
    rw[show((k:Int)+2)=((k+2:Nat):Int) by omega];rfl
   clear HY HRd HC
   generalize (k+1)%3=j1 at*
   generalize (k+2)%3=j2 at*
   obtain⟨p1,m1,c1,e1⟩:=hD j1
   obtain⟨p2,m2,c2,e2⟩:=hD j2
   rw[e1] at c3 HY1
   rw[e2] at d3 HY1
   generalize X j1=x1 at*
   generalize Y j1=y1 at*
   generalize Z j1=z1 at*
   generalize X j2=x2 at*
   generalize Y j2=y2 at*
   generalize Z j2=z2 at*
   clear hD e1 e2
   have hw1:IntKind.i64.wrap ((k:Int)+1)=(k:Int)+1:=zI _ ⟨by omega,by omega⟩
   have hw2:IntKind.i64.wrap ((k:Int)+2)=(k:Int)+2:=zI _ ⟨by omega,by omega⟩
   have hw3:IntKind.i64.wrap (j1:Int)=(j1:Int):=zI _ ⟨by omega,by omega⟩
   have hw4:IntKind.i64.wrap (j2:Int)=(j2:Int):=zI _ ⟨by omega,by omega⟩
   have hJ4:=HJB.out k wr wr.drew hJ.out (Below.refl _ wr).drew
   obtain⟨fn,tmps,assign,body,hy,hR⟩:=HY1.out wr.drew hJ4
   clear HY1
   gi_wp2
   refine zgw (λ_=>trivial) rfl (λ(g:Bool) i=>([.func (.yield lp) #[] #[],.int .i64 (k:Int),.int .i64 (k:Int),.int .i64 ((k:Int)+1),.int .i64 (j1:Int),.pointer (some ⟨Bs,j1*4,none⟩),.agg #[St x1,St y1,St z1,.slice p1 m1 c1],.int .i64 (k:Int),.int .i64 ((k:Int)+2),.int .i64 (j2:Int),.pointer (some ⟨Bs,j2*4,none⟩),.agg #[St x2,St y2,St z2,.slice p2 m2 c2],.agg #[St x1,St y1,St z1,.slice p1 m1 c1,St x2,St y2,St z2,.slice p2 m2 c2],.bool g,.bool !g]:List Value).getD i undef)
    (λg f W'=>(f 13=false->W'=wr.drew)/\(f 13=true->(g=true/\J (k+1) W')\/(g=false/\Jx W'))) (by kernel_rfl) (by kernel_rfl) true ⟨λ_=>rfl,λh=>by cases h⟩ λg=>?_
   refine za4 (.func (.yield lp) #[] #[]) (by rfl) (by rfl) (λf W' h=>⟨h.1,h.2⟩) (λf W' hf h=>by
    obtain rfl:=h.1 (hf.no (j:=13) hf.self (by kernel_rfl))
    go_simp) ?_
   try simp only[zzQ]
   refine za4 (.int .i64 (k:Int)) (by rfl) (by rfl) (λf W' h=>⟨h.1,h.2⟩) (λf W' hf h=>by
    obtain rfl:=h.1 (hf.no (j:=13) hf.self (by kernel_rfl))
    go_simp) ?_
   try simp only[zzQ]
   refine za4 (.int .i64 (k:Int)) (by rfl) (by rfl) (λf W' h=>⟨h.1,h.2⟩) (λf W' hf h=>by
    obtain rfl:=h.1 (hf.no (j:=13) (hf.no (j:=12) (hf.no (j:=6) (hf.no (j:=5) (hf.no (j:=4) (hf.no (j:=3) hf.self (by kernel_rfl)) (by kernel_rfl)) (by kernel_rfl)) (by kernel_rfl)) (by kernel_rfl)) (by kernel_rfl))
    go_simp) ?_
   try simp only[zzQ]
   refine za4 (.int .i64 ((k:Int)+1)) (by rfl) (by rfl) (λf W' h=>⟨h.1,h.2⟩) (λf W' hf h=>by
    obtain rfl:=h.1 (hf.no (j:=13) (hf.no (j:=12) (hf.no (j:=6) (hf.no (j:=5) (hf.no (j:=4) hf.self (by kernel_rfl)) (by kernel_rfl)) (by kernel_rfl)) (by kernel_rfl)) (by kernel_rfl))
    go_simp) ?_
   try simp only[zzQ]
   refine za4 (.int .i64 (j1:Int)) (by rfl) (by rfl) (λf W' h=>⟨h.1,h.2⟩) (λf W' hf h=>by
    obtain rfl:=h.1 (hf.no (j:=13) (hf.no (j:=12) (hf.no (j:=6) (hf.no (j:=5) hf.self (by kernel_rfl)) (by kernel_rfl)) (by kernel_rfl)) (by kernel_rfl))
    go_simp) ?_
   try simp only[zzQ]
   refine za4 (.pointer (some ⟨Bs,j1*4,none⟩)) (by rfl) (by rfl) (λf W' h=>⟨h.1,h.2⟩) (λf W' hf h=>by
    obtain rfl:=h.1 (hf.no (j:=13) (hf.no (j:=12) (hf.no (j:=6) hf.self (by kernel_rfl)) (by kernel_rfl)) (by kernel_rfl))
    go_simp;intro h;omega) ?_
   try simp only[zzQ]
   refine za4 (.agg #[St x1,St y1,St z1,.slice p1 m1 c1]) (by rfl) (by rfl) (λf W' h=>⟨h.1,h.2⟩) (λf W' hf h=>by
    obtain rfl:=h.1 (hf.no (j:=13) (hf.no (j:=12) hf.self (by kernel_rfl)) (by kernel_rfl))
    have c0:wr.drew.cell? _=_:=c0;have c1':wr.drew.cell? _=_:=c1';have c2':wr.drew.cell? _=_:=c2';have c3:wr.drew.cell? _=_:=c3;go_simp) ?_
   try simp only[zzQ]
   refine za4 (.int .i64 (k:Int)) (by rfl) (by rfl) (λf W' h=>⟨h.1,h.2⟩) (λf W' hf h=>by
    obtain rfl:=h.1 (hf.no (j:=13) (hf.no (j:=12) (hf.no (j:=11) (hf.no (j:=10) (hf.no (j:=9) (hf.no (j:=8) hf.self (by kernel_rfl)) (by kernel_rfl)) (by kernel_rfl)) (by kernel_rfl)) (by kernel_rfl)) (by kernel_rfl))
    go_simp) ?_
   try simp only[zzQ]
   refine za4 (.int .i64 ((k:Int)+2)) (by rfl) (by rfl) (λf W' h=>⟨h.1,h.2⟩) (λf W' hf h=>by
    obtain rfl:=h.1 (hf.no (j:=13) (hf.no (j:=12) (hf.no (j:=11) (hf.no (j:=10) (hf.no (j:=9) hf.self (by kernel_rfl)) (by kernel_rfl)) (by kernel_rfl)) (by kernel_rfl)) (by kernel_rfl))
    go_simp) ?_
   try simp only[zzQ]
   refine za4 (.int .i64 (j2:Int)) (by rfl) (by rfl) (λf W' h=>⟨h.1,h.2⟩) (λf W' hf h=>by
    obtain rfl:=h.1 (hf.no (j:=13) (hf.no (j:=12) (hf.no (j:=11) (hf.no (j:=10) hf.self (by kernel_rfl)) (by kernel_rfl)) (by kernel_rfl)) (by kernel_rfl))
    go_simp) ?_
   try simp only[zzQ]
   refine za4 (.pointer (some ⟨Bs,j2*4,none⟩)) (by rfl) (by rfl) (λf W' h=>⟨h.1,h.2⟩) (λf W' hf h=>by
    obtain rfl:=h.1 (hf.no (j:=13) (hf.no (j:=12) (hf.no (j:=11) hf.self (by kernel_rfl)) (by kernel_rfl)) (by kernel_rfl))
    go_simp;intro h;omega) ?_
   try simp only[zzQ]
   refine za4 (.agg #[St x2,St y2,St z2,.slice p2 m2 c2]) (by rfl) (by rfl) (λf W' h=>⟨h.1,h.2⟩) (λf W' hf h=>by
    obtain rfl:=h.1 (hf.no (j:=13) (hf.no (j:=12) hf.self (by kernel_rfl)) (by kernel_rfl))
    have d0:wr.drew.cell? _=_:=d0;have d1:wr.drew.cell? _=_:=d1;have d2:wr.drew.cell? _=_:=d2;have d3:wr.drew.cell? _=_:=d3;go_simp) ?_
   try simp only[zzQ]
   refine za4 (.agg #[St x1,St y1,St z1,.slice p1 m1 c1,St x2,St y2,St z2,.slice p2 m2 c2]) (by rfl) (by rfl) (λf W' h=>⟨h.1,h.2⟩) (λf W' hf h=>by
    obtain rfl:=h.1 (hf.no (j:=13) hf.self (by kernel_rfl))
    go_simp) ?_
   try simp only[zzQ]
   refine zqj (.bool g) (by rfl) (by rfl) (λf W' hf h C' hC'=>by
    obtain rfl:=h.1 hf.self
    go_simp
    refine⟨λ_=>by omega,hR.mono ?_⟩
    rintro e W3 (⟨rfl,hJ3⟩|⟨rfl,hJx3⟩)
    ·refine⟨_,rfl,hC' true W3 (λi hi=>?_) ⟨λh=>(by cases h),λ_=>.inl ⟨rfl,hJ3⟩⟩⟩
     match i,hi with
     |0,_|1,_|2,_|3,_|4,_|5,_|6,_|7,_|8,_|9,_|10,_|11,_|12,_=>rfl
     |13,hi=>rw[hf.self] at hi;cases hi
     |14,hi=>rw[hf.no (j:=14) hf.self (by kernel_rfl)] at hi;cases hi
     |_+15,_=>rfl
    ·refine⟨_,rfl,hC' false W3 (λi hi=>?_) ⟨λh=>(by cases h),λ_=>.inr ⟨rfl,hJx3⟩⟩⟩
     match i,hi with
     |0,_|1,_|2,_|3,_|4,_|5,_|6,_|7,_|8,_|9,_|10,_|11,_|12,_=>rfl
     |13,hi=>rw[hf.self] at hi;cases hi
     |14,hi=>rw[hf.no (j:=14) hf.self (by kernel_rfl)] at hi;cases hi
     |_+15,_=>rfl) ?_
   try simp only[zzQ]
   refine za4 (.bool !g) (by rfl) (by rfl) (λf W' h=>⟨h.1,h.2⟩) (λf W' hf h=>by go_simp) ?_
   try simp only[zzQ]
   refine zqi λf W5 hf h=>?_
   rcases h.2 (hf 13 (by decide)) with⟨rfl,hJ5⟩|⟨rfl,hJx5⟩
   ·have HJ5:=hid hJ5;clear hJ5 hf h
    gi_wp2
    go_roundw
    case rel=>exact⟨k+1,by omega,by go_num,HJ5.out⟩
    case measure=>simp[RowKit.intOf];omega
   ·have HJx5:=hid hJx5;clear hJx5 hf h
    gi_wp2
    refine bodyPost_ret (results_none rfl _ _ _) rfl ?_
    exact⟨⟨_,rfl⟩,.inr HJx5.out⟩
  ·obtain rfl:k=3:=by omega
   gi_wp2
   go_end0
   exact⟨⟨_,rfl⟩,.inl hJ.out⟩
end
section
open Go.RowKit Go.Shelf Lib Str Limb
theorem zsb:∀args w,(callFunc 7 args).run zF w=.ok (.enter 7 args) w:=enters_of Tryz.func7 (by kernel_rfl) rfl
def sz3 (a b c:Rat) (k:Nat):Prop:=sz a k/\sz b k/\sz c k
theorem zf7 (a b c:Rat) (h:sz3 a b c 60) (w:zA) (hw:Wd w):qJ 34 #[.agg #[St (numS a),St (numS b),St (numS c)]] w (.int .i64 0):=
 zgk _ _ _ (hid λV hV=>zfj a (zd0 (by omega) (by omega) h.1) V hV) (hid λV hV=>zfj b (zd0 (by omega) (by omega) h.2.1) V hV) (hid λV hV=>zfj c (zd0 (by omega) (by omega) h.2.2) V hV) w (hid hw)
theorem zlv (a b c d e f:Rat) (h:sz3 a b c 60) (h':sz3 d e f 60) (w:zA) (hw:Wd w):qJ 103 #[.agg #[St (numS a),St (numS b),St (numS c)],.agg #[St (numS d),St (numS e),St (numS f)]] w (.int .i64 0):=
 zon _ _ _ _ _ _ w (hid λW hW=>zf7 a b c h W (hw.below hW)) (hid λW hW=>zf7 d e f h' W (hw.below hW))
theorem zho (a b c d e f:Rat) (h:sz3 a b c 60) (h':sz3 d e f 60) (w:zA) (hw:Wd w):Calls zF 108 #[.agg #[St (numS a),St (numS b),St (numS c)],.agg #[St (numS d),St (numS e),St (numS f)],.func (.func 7) #[] #[]] w λe' w'=>e'=.returned (.tuple #[.agg #[St (numS (a*d)),St (numS (b*e)),St (numS (c*f))],.int .i64 0])/\Below w.heap.size w w':=
 zoo _ _ _ _ _ _ _ _ _ _ zsb w (hid λW hW=>zjf a d 60 60 (by omega) (by omega) (by omega) h.1 h'.1 W (hw.below hW)) (hid λW hW=>zjf b e 60 60 (by omega) (by omega) (by omega) h.2.1 h'.2.1 W (hw.below hW)) (hid λW hW=>zjf c f 60 60 (by omega) (by omega) (by omega) h.2.2 h'.2.2 W (hw.below hW))
theorem sz3.mono {a b c:Rat} {i j:Nat} (h:sz3 a b c i) (hij:i<=j):sz3 a b c j:=⟨h.1.mono hij,h.2.1.mono hij,h.2.2.mono hij⟩
theorem zs6 (a b c d e f:Rat) (h:sz3 a b c 30) (h':sz3 d e f 30) (w:zA) (hw:Wd w):Calls zF 58 #[.agg #[St (numS a),St (numS b),St (numS c)],.agg #[St (numS d),St (numS e),St (numS f)]] w λe' w'=>e'=.returned (.tuple #[St (numS (a*d+b*e+c*f)),.int .i64 0])/\Below w.heap.size w w':=
 zll _ _ _ _ _ _ _ w (hid λW hW=>zlv a b c d e f (h.mono (by omega)) (h'.mono (by omega)) W (hw.below hW))
  (hid λW hW=>zqa _ _ _ _ _ _ _ _ _ (numS (a*d+b*e)) _ W (hid λV hV=>zho a b c d e f (h.mono (by omega)) (h'.mono (by omega)) V ((hw.below hW).below hV))
    (hid λV hV=>zje (a*d) (b*e) 60 60 (by omega) (by omega) (by omega) (zca h.1 h'.1) (zca h.2.1 h'.2.1) V ((hw.below hW).below hV))
    (hid λV hV=>zje (a*d+b*e) (c*f) 121 60 (by omega) (by omega) (by omega) (zk0 (zca h.1 h'.1) (zca h.2.1 h'.2.1)) (zca h.2.2 h'.2.2) V ((hw.below hW).below hV)))
theorem zgs (a b c d e f:Rat) (h:sz3 a b c 30) (h':sz3 d e f 30) (w:zA) (hw:Wd w):Calls zF 57 #[.agg #[St (numS a),St (numS b),St (numS c)],.agg #[St (numS d),St (numS e),St (numS f)]] w λe' w'=>e'=.returned (.tuple #[.agg #[St (numS (b*f-c*e)),St (numS (c*d-a*f)),St (numS (a*e-b*d))],.int .i64 0])/\Below w.heap.size w w':=
 zjm _ _ _ _ _ _ _ _ _ w (hid λW hW=>zlv a b c d e f (h.mono (by omega)) (h'.mono (by omega)) W (hw.below hW))
  (hid λW hW=>by
    have M:∀(x y:Rat),sz x 30->sz y 30->Hid (∀V:zA,qL W V->qJ 7 #[St (numS x),St (numS y)] V (.tuple #[St (numS (x*y)),.int .i64 0])):=λx y hx hy=>hid λV hV=>zjf x y 30 30 (by omega) (by omega) (by omega) hx hy V ((hw.below hW).below hV)
    have S:∀(x y z t:Rat),sz x 30->sz y 30->sz z 30->sz t 30->Hid (∀V:zA,qL W V->qJ 14 #[St (numS (x*y)),St (numS (z*t))] V (.tuple #[St (numS (x*y-z*t)),.int .i64 0])):=λx y z t hx hy hz ht=>hid λV hV=>ztz (x*y) (z*t) 60 60 (by omega) (by omega) (by omega) (zca hx hy) (zca hz ht) V ((hw.below hW).below hV)
    exact zm3 _ _ _ _ _ _ _ _ _ _ _ _ _ _ _ W (M b f h.2.1 h'.2.2) (M c e h.2.2 h'.2.1) (S b f c e h.2.1 h'.2.2 h.2.2 h'.2.1) (M c d h.2.2 h'.1) (M a f h.1 h'.2.2) (S c d a f h.2.2 h'.1 h.1 h'.2.2) (M a e h.1 h'.2.1) (M b d h.2.1 h'.1) (S a e b d h.1 h'.2.1 h.2.1 h'.1))
theorem zf8 (a b c x:Rat) (h:sz3 a b c 60) (hx:sz x 60) (w:zA) (hw:Wd w):Calls zF 60 #[.agg #[St (numS a),St (numS b),St (numS c)],St (numS x)] w λe' w'=>e'=.returned (.tuple #[.agg #[St (numS (a*x)),St (numS (b*x)),St (numS (c*x))],.int .i64 0])/\Below w.heap.size w w':=
 zj3 _ _ _ _ _ _ _ w (hid λW hW=>zf7 a b c h W (hw.below hW)) (hid λW hW=>zfj x (zd0 (by omega) (by omega) hx) W (hw.below hW)) (hid λW hW=>zho a b c x x x h ⟨hx,hx,hx⟩ W (hw.below hW))
end
end Go.Proofs.YtccijmidbdapaaaGreatDoor
