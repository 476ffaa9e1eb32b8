/- integer.estimate. -/
import Derived.Test.YtccijmidbdapaaaGreatDoorJ04
set_option maxRecDepth 100000
set_option maxHeartbeats 8000000
open Go renaming World → zA
open Go.RowKit renaming Below → zB, intOf → zL
open Go.Proofs.Tryz renaming prog → zF
open Go.World renaming alloc_heap_new → zG, size_alloc → zH
open Go.IntWalk renaming i64_in → zI
open Go.RowKit.Below renaming refl → zM, heap_setCell → yE
open Nat renaming le_refl → zN, zero_le → zR
open List renaming length_map → zV, size_toArray → zZ, length_cons → yA, nil_append → yI, cons_append → yM
namespace Go.Proofs.YtccijmidbdapaaaGreatDoor
section
open Go.RowKit Lib Str Limb
theorem zup {P:Program} {ops:Array Oper} {C:zA->Prop} {Q:Act->Prop} {a:Act} {o:Oper} {rest:List Oper} {v:Value} (hw:Region.wanted o (yielded ops a.tmps)=true)
 (hy:∀w,C w->(execOp a.eval o).run P w=.ok (.value v) w) (h:wpQuiet P ops C Q rest (a.put o.dst v)):wpQuiet P ops C Q (o::rest) a:=by
 simp only[wpQuiet,hw,if_true]
 exact⟨v,λw hC=>by unfold Oper.quietAt;rw[hy w hC];exact⟨rfl,rfl⟩,h⟩
theorem zuq {P:Program} {ops:Array Oper} {C:zA->Prop} {Q:Act->Prop} {a:Act} {o:Oper} {rest:List Oper} (hw:Region.wanted o (yielded ops a.tmps)=false)
 (h:wpQuiet P ops C Q rest (a.put o.dst undef)):wpQuiet P ops C Q (o::rest) a:=by
 simp only[wpQuiet,hw,Bool.false_eq_true,if_false]
 exact h
structure WQ (P:Program) (ops:Array Oper) (C:zA->Prop) (Q:Act->Prop) (l:List Oper) (a:Act):Prop where
 out:wpQuiet P ops C Q l a
theorem WQ.read {P:Program} {ops:Array Oper} {C:zA->Prop} {Q:Act->Prop} {a:Act} {o:Oper} {rest:List Oper} {v:Value} (hw:Region.wanted o (yielded ops a.tmps)=true)
 (hy:∀w,C w->(execOp a.eval o).run P w=.ok (.value v) w) (h:WQ P ops C Q rest (a.put o.dst v)):WQ P ops C Q (o::rest) a:=⟨zup hw hy h.out⟩
theorem WQ.skip {P:Program} {ops:Array Oper} {C:zA->Prop} {Q:Act->Prop} {a:Act} {o:Oper} {rest:List Oper} (hw:Region.wanted o (yielded ops a.tmps)=false)
 (h:WQ P ops C Q rest (a.put o.dst undef)):WQ P ops C Q (o::rest) a:=⟨zuq hw h.out⟩
theorem WQ.nil {P:Program} {ops:Array Oper} {C:zA->Prop} {Q:Act->Prop} {a:Act} (h:Q a):WQ P ops C Q [] a:=⟨wpQuiet_nil h⟩
theorem z04 (x1 x2:Nat) (t1:x1<1000000000) (t2:x2<1000000000):
 IntKind.i64.wrap ((x2:Int)*1000000000)=(x2:Int)*1000000000/\IntKind.i64.wrap ((x2:Int)*1000000000+x1)=(x2:Int)*1000000000+x1/\(0:Int)<=(x2:Int)*1000000000+x1:=
 ⟨zI _ (by omega),zI _ (by omega),by omega⟩
theorem zyw (x1 x2 y1:Nat) (t1:x1<1000000000) (t2:x2<1000000000) (t4:y1<1000000000) (h0:0<y1) (i2:(x2*1000000000+x1)/y1<2*1000000000):
 IntKind.i64.wrap (((x2:Int)*1000000000+x1).tdiv (y1:Int))=(((x2*1000000000+x1)/y1:Nat):Int)/\
 IntKind.i64.wrap (((x2:Int)*1000000000+x1).tmod (y1:Int))=(((x2*1000000000+x1)%y1:Nat):Int):=by
 have nn:(0:Int)<=(x2:Int)*1000000000+x1:=by omega
 have e:(x2:Int)*1000000000+x1=((x2*1000000000+x1:Nat):Int):=by omega
 have hm:(x2*1000000000+x1)%y1<y1:=Nat.mod_lt _ h0
 constructor
 ·rw[Int.tdiv_eq_ediv_of_nonneg nn,e,<-Int.natCast_ediv]
  generalize (x2*1000000000+x1)/y1=Y at*
  clear e nn hm
  exact zI _ (by omega)
 ·rw[Int.tmod_eq_emod_of_nonneg nn,e,<-Int.natCast_emod]
  generalize (x2*1000000000+x1)%y1=Y at*
  clear e nn i2
  exact zI _ (by omega)
theorem zuf (q y0:Nat) (h:q<2000000000) (t:y0<1000000000):IntKind.i64.wrap ((q:Int)*(y0:Int))=(q:Int)*y0:=by
 have hm:q*y0<=2000000000*999999999:=Nat.mul_le_mul (by omega) (by omega)
 rw[<-Int.natCast_mul]
 generalize q*y0=Y at*
 exact zI _ (by omega)
theorem z2q (r x0 y1:Nat) (h:r<1000000000) (t:x0<1000000000) (t':y1<1000000000):IntKind.i64.wrap ((r:Int)*1000000000)=(r:Int)*1000000000/\IntKind.i64.wrap ((r:Int)*1000000000+x0)=(r:Int)*1000000000+x0/\IntKind.i64.wrap ((r:Int)+y1)=(r:Int)+y1:=
 ⟨zI _ (by omega),zI _ (by omega),zI _ (by omega)⟩
theorem z2r (q:Nat) (h:q<2000000000):IntKind.i64.wrap ((q:Int)-1)=(q:Int)-1:=zI _ (by omega)
theorem z3b (q y0 r x0:Nat) (h:¬r*1000000000+x0<q*y0):¬(r:Int)*1000000000+x0<(q:Int)*y0:=by rw[<-Int.natCast_mul];omega
theorem z2s (q y0 r x0:Nat) (h:r*1000000000+x0<q*y0):(r:Int)*1000000000+x0<(q:Int)*y0:=by rw[<-Int.natCast_mul];omega
theorem z3c (q:Nat) (h:q<1000000000):decide ((1000000000:Int)<=(q:Int))=false:=by simp;omega
theorem z2t (q:Nat) (h:1000000000<=q):decide ((1000000000:Int)<=(q:Int))=true:=by simp;omega
theorem z3d (r:Nat) (h:r<1000000000):decide ((r:Int)<1000000000)=true:=by simp;omega
theorem z0t (r y1:Nat) (h:r+y1<1000000000):decide ((1000000000:Int)<=(r:Int)+y1)=false:=by simp;omega
theorem zwg (r y1:Nat) (h:¬r+y1<1000000000):decide ((1000000000:Int)<=(r:Int)+y1)=true:=by simp;omega
theorem zao {B:Nat} {a w:zA} (h:zB B a w) (n:Nat):zB B a (w.drewN n):=h.trans ⟨rfl,rfl,rfl,zN _,λ_ _=>rfl⟩
theorem z0u (r y1 q x:Nat) (h:q*y1+r=x) (h1:1<=q):(q-1)*y1+(r+y1)=x:=by
 obtain⟨p,rfl⟩:∃p,q=p+1:=⟨q-1,by omega⟩
 rw[Nat.add_mul] at h;simp;omega
theorem zqy (g cap gv capv:Nat) (u v:List Nat) (j n:Nat) (w:zA) (hru:Row w g cap u) (hrv:Row w gv capv v) (su:zal B9 u) (sv:zal B9 v) (hn:v.length=n+2)
 (hj:j+v.length+1<=u.length) (lu:u.length<=2500) (lv:v.length<=1000) (hD:valL B9 (u.drop j)<B9*valL B9 v) (h0:0<v[n+1]?.getD 0):
 Calls zF 160 #[.slice (some ⟨g,0,none⟩) u.length cap,.slice (some ⟨gv,0,none⟩) v.length capv,I j] w λe w'=>
  ∃q:Nat,e=.returned (I q)/\valL B9 (u.drop j)/valL B9 v<=q/\q<=2*B9/\zB w.heap.size w w':=by
 obtain⟨i1,i2⟩:=zys (B:=B9) (by decide) su sv hn hj hD h0
 have hdec:=λq r h1 h2=>z03 (B:=B9) (q:=q) (r:=r) (by decide) su sv hn hj hD h1 h2
 have HDEC:=hid hdec;clear hdec hD
 have s0:=zaj su (by decide) (j+n)
 have s1:=zaj su (by decide) (j+n+1)
 have s2:=zaj su (by decide) (j+n+2)
 have s3:=zaj sv (by decide) n
 have s4:=zaj sv (by decide) (n+1)
 have c0:=hru.cell (getD_some (show j+n<u.length by omega))
 have c1:=hru.cell (getD_some (show j+n+1<u.length by omega))
 have c2:=hru.cell (getD_some (show j+n+2<u.length by omega))
 have c3:=hrv.cell (getD_some (show n<v.length by omega))
 have c4:=hrv.cell (getD_some (show n+1<v.length by omega))
 generalize valL B9 (u.drop j)/valL B9 v=qT at*
 generalize u[j+n]?.getD 0=x0 at*
 generalize u[j+n+1]?.getD 0=x1 at*
 generalize u[j+n+2]?.getD 0=x2 at*
 generalize v[n]?.getD 0=y0 at*
 generalize v[n+1]?.getD 0=y1 at*
 clear hru hrv su sv
 generalize u.length=m at*
 generalize v.length=k at*
 have t0:x0<1000000000:=s0
 have t1:x1<1000000000:=s1
 have t2:x2<1000000000:=s2
 have t3:y0<1000000000:=s3
 have t4:y1<1000000000:=s4
 have hB9:B9=1000000000:=rfl
 rw[hB9] at i1 i2 HDEC⊢
 clear s0 s1 s2 s3 s4 hB9
 have w1:IntKind.i64.wrap ((j:Int)+(k:Int))=(j:Int)+k:=zI _ (by omega)
 have w2:IntKind.i64.wrap ((j:Int)+(k:Int)-1)=(j:Int)+k-1:=zI _ (by omega)
 have w3:IntKind.i64.wrap ((j:Int)+(k:Int)-2)=(j:Int)+k-2:=zI _ (by omega)
 have w4:IntKind.i64.wrap ((k:Int)-1)=(k:Int)-1:=zI _ (by omega)
 have w5:IntKind.i64.wrap ((k:Int)-2)=(k:Int)-2:=zI _ (by omega)
 have n1:((j:Int)+(k:Int)).toNat=j+n+2:=by omega
 have n2:((j:Int)+(k:Int)-1).toNat=j+n+1:=by omega
 have n3:((j:Int)+(k:Int)-2).toNat=j+n:=by omega
 have n4:((k:Int)-1).toNat=n+1:=by omega
 have n5:((k:Int)-2).toNat=n:=by omega
 have l1:(0:Int)<=(j:Int)+k/\(j:Int)+k<m:=by omega
 have l2:(0:Int)<=(j:Int)+k-1/\(j:Int)+k-1<m:=by omega
 have l3:(0:Int)<=(j:Int)+k-2/\(j:Int)+k-2<m:=by omega
 have l4:(0:Int)<=(k:Int)-1/\(k:Int)-1<k:=by omega
 have l5:(0:Int)<=(k:Int)-2/\(k:Int)-2<k:=by omega
 obtain⟨l1a,l1b⟩:=l1
 obtain⟨l2a,l2b⟩:=l2
 obtain⟨l3a,l3b⟩:=l3
 obtain⟨l4a,l4b⟩:=l4
 obtain⟨l5a,l5b⟩:=l5
 have l2c:(1:Int)<=(j:Int)+k:=by omega
 have l3c:(2:Int)<=(j:Int)+k:=by omega
 have l4c:(1:Int)<=(k:Int):=by omega
 have l5c:(2:Int)<=(k:Int):=by omega
 have hy0:¬y1=0:=by omega
 obtain⟨b1,b2,nn⟩:=z04 x1 x2 t1 t2
 obtain⟨b3,b4⟩:=zyw x1 x2 y1 t1 t2 t4 h0 i2
 have HNK:=hid hn;clear hn
 go_enter Tryz.func160,Tryz.ntmps160
 go_wp2
 (refine wp_region_quiet_lit (by kernel_rfl) (by kernel_rfl) (WQ.out ?_)
  repeat(first|(apply WQ.read (by rfl);(focus(rintro W ⟨n,rfl⟩;go_simp;try with_reducible rfl));try simp only[zzQ]))
  refine WQ.nil ?_
  rintro _ ⟨nq,rfl⟩)
 go_wp2
 (refine wp_region_quiet_lit (by kernel_rfl) (by kernel_rfl) (WQ.out ?_)
  repeat(first|(apply WQ.read (by rfl);(focus(rintro W ⟨n,rfl⟩;go_simp;try with_reducible rfl));try simp only[zzQ]))
  refine WQ.nil ?_
  rintro _ ⟨nq2,rfl⟩)
 go_wp2
 have v1:Value.int .i64 (((x2:Int)*1000000000+x1)/(y1:Int))=I ((x2*1000000000+x1)/y1):=by simp[I]
 have v2:Value.int .i64 (((x2:Int)*1000000000+x1).tmod (y1:Int))=I ((x2*1000000000+x1)%y1):=by rw[Int.tmod_eq_emod_of_nonneg nn];simp[I]
 rw[v1,v2]
 have hqr:(x2*1000000000+x1)/y1*y1+(x2*1000000000+x1)%y1=x2*1000000000+x1:=by rw[Nat.mul_comm];exact Nat.div_add_mod _ _
 have hrl:(x2*1000000000+x1)%y1<1000000000:=Nat.lt_trans (Nat.mod_lt _ h0) t4
 clear v1 v2 b1 b2 b3 b4 nn
 generalize (x2*1000000000+x1)/y1=q0 at*
 generalize (x2*1000000000+x1)%y1=r0 at*
 go_loopw [9,10] (λa b wr=>∃q r:Nat,a=I q/\b=I r/\qT<=q/\q<2000000000/\r<1000000000/\q*y1+r=x2*1000000000+x1/\∃nd,wr=w.drewN nd)
  (λa _ _=>(zL a).toNat)
 case atStart=>exact⟨q0,r0,rfl,rfl,i1,i2,hrl,hqr,_,World.drewN_drewN _ _ _⟩
 case round=>
  obtain⟨q,r,rfl,rfl,hq1,hq2,hr,hqr2,nd,rfl⟩:=hrel
  have f1:=zuf q y0 hq2 t3
  obtain⟨f2,f3,f4⟩:=z2q r x0 y1 hr t0 t4
  have f5:=z2r q hq2
  have HQR:=hid hqr2;clear hqr2 hqr
  have HQ0:=hid i1;clear i1 i2 hrl
  by_cases hA:1000000000<=q
  ·have hlt:=HDEC.out q r HQR.out (.inl hA)
   have k1:=z2t q hA
   have q1':1<=q:=by omega
   have HLT:=hid hlt;clear hlt hA
   go_wp2
   (refine wp_region_quiet_lit (by kernel_rfl) (by kernel_rfl) (WQ.out ?_)
    repeat(first|(apply WQ.read (by rfl);(focus(rintro W ⟨n,rfl⟩;go_simp;try with_reducible rfl));try simp only[zzQ])|(apply WQ.skip (by rfl);try simp only[zzQ]))
    refine WQ.nil ?_
    rintro _ ⟨nq3,rfl⟩)
   clear k1
   have f6:=z0u r y1 q _ HQR.out q1'
   have HF6:=hid f6;clear f6
   go_wp2
   (refine wp_region_quiet_lit (by kernel_rfl) (by kernel_rfl) (WQ.out ?_)
    repeat(first|(apply WQ.read (by rfl);(focus(rintro W ⟨n,rfl⟩;go_simp;try with_reducible rfl));try simp only[zzQ])|(apply WQ.skip (by rfl);try simp only[zzQ]))
    refine WQ.nil ?_
    rintro _ ⟨nq4,rfl⟩)
   clear f1 f2 f3
   by_cases hR:r+y1<1000000000
   ·have kR:=z0t r y1 hR
    have HR:=hid hR;clear hR
    go_wp2
    go_roundw
    case rel=>exact⟨q-1,r+y1,by show Value.int .i64 _=Value.int .i64 _;congr 1;omega,by simp[I],by have:=HLT.out;omega,by omega,HR.out,HF6.out,_,by first|exact World.drewN_drewN _ _ _|rfl⟩
    case measure=>simp[zL];omega
   ·have kR:=zwg r y1 hR
    clear hR
    go_wp2
    go_ret
    refine⟨q-1,?_,by have:=HLT.out;omega,by omega,?_⟩
    ·show Ending.returned (Value.int .i64 _)=Ending.returned (Value.int .i64 _);congr 2;omega
    ·exact zao (zM _ _) _
  ·have g1:q<1000000000:=by omega
   have k1:=z3c q g1
   have k2:=z3d r hr
   by_cases hB:r*1000000000+x0<q*y0
   ·have hlt:=HDEC.out q r HQR.out (.inr hB)
    have k3:decide ((r:Int)*1000000000+x0<(q:Int)*y0)=true:=decide_eq_true (z2s q y0 r x0 hB)
    have q1':1<=q:=by omega
    have HLT:=hid hlt;clear hlt hA hB
    go_wp2
    (refine wp_region_quiet_lit (by kernel_rfl) (by kernel_rfl) (WQ.out ?_)
     repeat(first|(apply WQ.read (by rfl);(focus(rintro W ⟨n,rfl⟩;go_simp;try with_reducible rfl));try simp only[zzQ])|(apply WQ.skip (by rfl);try simp only[zzQ]))
     refine WQ.nil ?_
     rintro _ ⟨nq3,rfl⟩)
    clear k1 k2 k3
    have f6:=z0u r y1 q _ HQR.out q1'
    have HF6:=hid f6;clear f6
    go_wp2
    (refine wp_region_quiet_lit (by kernel_rfl) (by kernel_rfl) (WQ.out ?_)
     repeat(first|(apply WQ.read (by rfl);(focus(rintro W ⟨n,rfl⟩;go_simp;try with_reducible rfl));try simp only[zzQ])|(apply WQ.skip (by rfl);try simp only[zzQ]))
     refine WQ.nil ?_
     rintro _ ⟨nq4,rfl⟩)
    clear f1 f2 f3
    by_cases hR:r+y1<1000000000
    ·have kR:=z0t r y1 hR
     have HR:=hid hR;clear hR
     go_wp2
     go_roundw
     case rel=>exact⟨q-1,r+y1,by show Value.int .i64 _=Value.int .i64 _;congr 1;omega,by simp[I],by have:=HLT.out;omega,by omega,HR.out,HF6.out,_,by first|exact World.drewN_drewN _ _ _|rfl⟩
     case measure=>simp[zL];omega
    ·have kR:=zwg r y1 hR
     clear hR
     go_wp2
     go_ret
     refine⟨q-1,?_,by have:=HLT.out;omega,by omega,?_⟩
     ·show Ending.returned (Value.int .i64 _)=Ending.returned (Value.int .i64 _);congr 2;omega
     ·exact zao (zM _ _) _
   ·have k3:decide ((r:Int)*1000000000+x0<(q:Int)*y0)=false:=decide_eq_false (z3b q y0 r x0 hB)
    clear hA hB
    go_wp2
    (refine wp_region_quiet_lit (by kernel_rfl) (by kernel_rfl) (WQ.out ?_)
     repeat(first|(apply WQ.read (by rfl);(focus(rintro W ⟨n,rfl⟩;go_simp;try with_reducible rfl));try simp only[zzQ])|(apply WQ.skip (by rfl);try simp only[zzQ]))
     refine WQ.nil ?_
     rintro _ ⟨nq3,rfl⟩)
    go_wp2
    go_ret
    exact⟨q,rfl,hq1,by omega,zao (zao (zM _ _) _) _⟩
end
section
open Go.RowKit Go.Shelf
attribute [local go_sem] Oper.semAt_some
def IterC (F:Fence) (n:Nat) (P:Program) (gf:Nat) (lb:Array Value) (Rd:zA->Prop) (R:Nat->Array Value->Prop) (len:Nat):Prop:=
 ∀(l:Nat) (J:Nat->zA->Prop) (Jx:zA->Prop) (W:zA),(∀k W1,J k W1->Rd W1)->(∀k W1 W2,J k W1->qL W1 W2->J k W2)->
  (∀k args W1,J k W1->k<len->R k args->YieldAt F (n-1) P l args W1 λe W'=>(e=.returned (.bool true)/\J (k+1) W')\/(e=.returned (.bool false)/\Jx W'))->
  J 0 W->CallsIn F n P gf (#[.func (.yield l) #[] #[]]++lb) W λe W'=>(∃v,e=.returned v)/\(J len W'\/Jx W')
def zja (B:Nat) (I:Nat->zA->Prop) (Ix:Code->Nat->zA->Prop) (k:Nat) (W:zA):Exit->Act->zA->Prop
 | .normal,_,W'=>KeepsFrom B W W'/\I (k+1) W'
 | .ret,_,W'=>KeepsFrom B W W'/\Ix .ret k W'
 | .exit id,_,W'=>KeepsFrom B W W'/\Ix (.exit id) k W'
 | .goto t,_,W'=>KeepsFrom B W W'/\Ix (.goto t) k W'
 | .panic _,_,_=>False
 | .outgrown,_,_=>False
theorem zcw {W:zA} {l:Nat} {o:Obj} (o':Obj) (h:W.heap[l]? =some o) (hc:o.isCells=false):CellsKept W (W.putObj l o'):=
 zen (grownBy_putObj' W l o') (λr e=>by cases e;exact⟨o,h,hc⟩)
theorem zcx {B:Nat} {W:zA} {l:Nat} {o:Obj} (o':Obj) (h:W.heap[l]? =some o) (hB:B<=l):zB B W (W.putObj l o'):=
 (zM B W).grown (grownBy_putObj' W l o') (by have:=(Array.getElem?_eq_some_iff.1 h).1;omega) (λk e=>by cases e;omega)
theorem zac {W W':zA} (h:qL W W'):CellsKept W W':=λk cs t fz hk=>by
 rw[h.block k (Array.getElem?_eq_some_iff.1 hk).1];exact hk
theorem zqz {F:Fence} {n:Nat} {P:Program} {g:Operand} {ps:Array Tmp} {assign body:Code} {Q:Exit->Act->zA->Prop} {a:Act} {w:zA}
 (hro:F.round=none) (h1:1<=n) {gf:Nat} {lb:Array Value} (hg:a.eval g=.func (.func gf) #[] lb) (hFg:F.fn gf) (eg:∀args w,(callFunc gf args).run P w=.ok (.enter gf args) w)
 {Rd:zA->Prop} {R:Nat->Array Value->Prop} {len:Nat} (hseq:IterC F (n-1) P gf lb Rd R len) (hps:∀k args,R k args->args.size=ps.size)
 {B:Nat} (hB:B<=w.heap.size) (I:Nat->zA->Prop) (Ix:Code->Nat->zA->Prop) (hI:∀k W W',I k W->CellsKept W W'->zB B W W'->I k W') (hIx:∀c k W W',Ix c k W->CellsKept W W'->zB B W W'->Ix c k W')
 (hRd:∀k W,I k W->Rd W) (h0:I 0 w) (a₁:Nat->Array Value->Act)
 (hassign:∀(l k:Nat) (args:Array Value) (W:zA) (K:Act->zA->Prop),R k args->K (a₁ k args) W->
   assign.wpIn (F.inRound l) (n-1-1) P (Exit.then K (λ_ _ _=>False)) {tmps:=(ps.zip args).foldl (λt (p,v)=>t.setIfInBounds p v) a.tmps,defers:=[]} W)
 (hbody:∀(l k:Nat) (args:Array Value) (W:zA),w.heap.size<=l->(∃r,W.heap[l]? =some (.loop r))->I k W->k<len->R k args->body.wpIn (F.inRound l) (n-1-1) P (zja w.heap.size I Ix k W) (a₁ k args) W)
 (hdone:∀(D:Nat) (W:zA),w.heap.size<=D->I len W->W.heap[D]? =some (.deferred (some []))->Q .normal {a with defers:={target:=.collected D,args:= #[]}::a.defers} W)
 (hstop:∀(D:Nat) (c:Code) (k:Nat) (W:zA),w.heap.size<=D->Ix c k W->W.heap[D]? =some (.deferred (some []))->c.wpIn F n P Q {a with defers:={target:=.collected D,args:= #[]}::a.defers} W):
 (Code.rangeFunc g ps assign body).wpIn F n P Q a w:=by
 refine wpIn_rangeFunc λfn hfn=>?_
 rw[hro]
 obtain⟨z,hz⟩:∃z,z=w.heap.size:=⟨_,rfl⟩
 let rec':LoopState->Option Code->Obj:=λst pe=>.loop {state:=st,pending:=pe,fn,tmps:=a.tmps,params:=ps,assign,body,defers:=z}
 have hnc:∀st pe,(rec' st pe).isCells=false:=λ_ _=>rfl
 -- the two blocks of the loop's own
 have hbk:∀st,((w.alloc (.deferred (some []))).alloc (rec' st none)).heap[z+1]? =some (rec' st none)/\((w.alloc (.deferred (some []))).alloc (rec' st none)).heap[z]? =some (.deferred (some [])):=λst=>by
  subst hz
  refine⟨?_,?_⟩
  ·have:=zG (w.alloc (.deferred (some []))) (rec' st none);rwa [zH] at this
  ·exact(Below.heap_alloc _ _ _ (by simp)).trans (zG w _)
 have hstart:qL w ((w.alloc (.deferred (some []))).alloc (rec' .ready none)):=((zM _ w).alloc (zN _) _).alloc (by simp) _
 let bk:LoopState->Option Code->zA->Prop:=λst pe W=>W.heap[z+1]? =some (rec' st pe)/\W.heap[z]? =some (.deferred (some []))
 have hturn:∀st pe st' pe' W,bk st pe W->bk st' pe' (W.putObj (z+1) (rec' st' pe')):=λst pe st' pe' W h=>
  ⟨World.putObj_heap_same (Array.getElem?_eq_some_iff.1 h.1).1,(World.putObj_heap_other (by omega)).trans h.2⟩
 refine⟨z+1,[{target:=.collected z,args:= #[]}],(w.alloc (.deferred (some []))).alloc (rec' .ready none),{target:=.fn (.func gf) lb,args:= #[.func (.yield (z+1)) #[] #[]]},(w.alloc (.deferred (some []))).alloc (rec' .ready none),gf,
  #[.func (.yield (z+1)) #[] #[]]++lb,(w.alloc (.deferred (some []))).alloc (rec' .ready none),?_,?_,?_,?_,λ_=>h1,?_⟩
 ·subst hz;exact run_enterLoop_outer _ _ _ _ _
 ·simp only[resolve,hg]
  simp[go_sem]
 ·intro f' hf';simp[Target.leads] at hf';subst hf';exact hFg
 ·simp[invoke,go_sem,eg]
 refine(hseq (z+1) (λk W=>I k W/\bk .ready none W) (λW=>∃c k,Ix c k W/\bk .done (some c) W) _ (λk W1 h=>hRd k W1 h.1) (λk W1 W2 h hb=>?_) ?_ ?_).mono ?_
 ·exact⟨hI k W1 W2 h.1 (zac hb) (hb.mono (by have:=(Array.getElem?_eq_some_iff.1 h.2.2).1;omega)),
   (hb.block _ (Array.getElem?_eq_some_iff.1 h.2.1).1).trans h.2.1,(hb.block _ (Array.getElem?_eq_some_iff.1 h.2.2).1).trans h.2.2⟩
 ·rintro k args W ⟨hi,hbW⟩ hk hR
  have hy:=run_yield (P:=P) (args:=args) hbW.1 (hps k args hR)
  refine⟨fn,_,assign,body,hy,roundIn_of_wpIn hfn (hassign _ k args W _ hR ?_)⟩
  refine⟨_,run_beginRound hbW.1 rfl,?_⟩
  have hb2:bk .busy none (W.putObj (z+1) (rec' .busy none)):=hturn _ _ _ _ _ hbW
  have hi2:=hI k _ _ hi (zcw (rec' .busy none) hbW.1 rfl) (zcx (B:=B) (rec' .busy none) hbW.1 (by omega))
  refine wpIn_mono (hbody _ k args _ (by omega) ⟨_,hb2.1⟩ hi2 hk hR) ?_
  have fin:∀(jump:Option Code) (W3:zA),KeepsFrom w.heap.size (W.putObj (z+1) (rec' .busy none)) W3->
   (Instr.endRound (z+1) jump).run P W3=.ok (.bool jump.isNone) (W3.putObj (z+1) (rec' (if jump.isNone then .ready else .done) jump))/\
   CellsKept W3 (W3.putObj (z+1) (rec' (if jump.isNone then .ready else .done) jump))/\zB B W3 (W3.putObj (z+1) (rec' (if jump.isNone then .ready else .done) jump))/\
   bk (if jump.isNone then .ready else .done) jump (W3.putObj (z+1) (rec' (if jump.isNone then .ready else .done) jump)):=λjump W3 hk3=>by
   have hb3:bk .busy none W3:=⟨hk3.same _ _ (by omega) hb2.1 rfl,hk3.same _ _ (by omega) hb2.2 rfl⟩
   exact⟨run_endRound jump hb3.1,zcw _ hb3.1 rfl,zcx _ hb3.1 (by omega),hturn _ _ _ _ _ hb3⟩
  rintro e a3 W3 hp
  cases e with
  |normal=>
   obtain⟨hk3,hi3⟩:=hp
   obtain⟨hr,hc,hbl,hb4⟩:=fin none W3 hk3
   exact⟨_,_,hr,.inl ⟨rfl,hI _ _ _ hi3 hc hbl,hb4⟩⟩
  |ret=>
   obtain⟨hk3,hi3⟩:=hp
   obtain⟨hr,hc,hbl,hb4⟩:=fin (some .ret) W3 hk3
   exact⟨_,_,hr,.inr ⟨rfl,_,_,hIx _ _ _ _ hi3 hc hbl,hb4⟩⟩
  |exit id=>
   obtain⟨hk3,hi3⟩:=hp
   obtain⟨hr,hc,hbl,hb4⟩:=fin (some (.exit id)) W3 hk3
   exact⟨_,_,hr,.inr ⟨rfl,_,_,hIx _ _ _ _ hi3 hc hbl,hb4⟩⟩
  |goto t=>
   obtain⟨hk3,hi3⟩:=hp
   obtain⟨hr,hc,hbl,hb4⟩:=fin (some (.goto t)) W3 hk3
   exact⟨_,_,hr,.inr ⟨rfl,_,_,hIx _ _ _ _ hi3 hc hbl,hb4⟩⟩
  |panic ch=>exact hp.elim
  |outgrown=>exact hp.elim
 ·exact⟨hI 0 _ _ h0 (zac hstart) (hstart.mono hB),hbk .ready⟩
 ·rintro e W2 ⟨⟨v,rfl⟩,(⟨hi,hb4⟩|⟨c,k,hi,hb4⟩)⟩
  ·exact⟨none,_,run_endLoop hb4.1 (by simp),hdone z _ (by omega) (hI _ _ _ hi (zcw _ hb4.1 rfl) (zcx _ hb4.1 (by omega))) ((World.putObj_heap_other (by omega)).trans hb4.2)⟩
  ·exact⟨some c,_,run_endLoop hb4.1 (by simp),hstop z c k _ (by omega) (hIx _ _ _ _ hi (zcw _ hb4.1 rfl) (zcx _ hb4.1 (by omega))) ((World.putObj_heap_other (by omega)).trans hb4.2)⟩
theorem z05 (Bs len cap:Nat) (p:Option Addr) (V:Nat->Int->Prop) (Rd:zA->Prop) (hlen:len<=3000)
 (hRd:∀W,Rd W->W.cell? ⟨Bs,0,none⟩=some (.slice p len cap)/\∀i,i<len->∃b off x,p=some ⟨b,off,none⟩/\V i x/\W.cell? ⟨b,off+i,none⟩=some (.int .i64 x)):
 IterC Fence.wide 2 zF 195 #[.pointer (some ⟨Bs,0,none⟩)] Rd (λk args=>∃x,args= #[.int .i64 ((len-1-k:Nat):Int),.int .i64 x]/\V (len-1-k) x) len:=by
 intro l J Jx W hJr _ hY h0
 refine callsIn_of_wp Tryz.func195 rfl trivial ?_ rfl
 simp only[Tryz.ntmps195,zZ,yA,List.length_nil,Nat.reduceAdd,Nat.reduceSub,Array.replicate_succ,Array.replicate_zero,List.push_toArray,List.append_toArray,yI,yM]
 have hb:=(hRd W (hJr 0 W h0)).1
 have HRd:=Lib.hid hRd;clear hRd
 have HY:=Lib.hid hY;clear hY
 have HJR:=Lib.hid hJr;clear hJr
 gi_wp2
 gi_loopw [3] (λi wr=>∃(k:Nat),k<=len/\i=.int .i64 ((len:Int)-1-k)/\Hid (J k wr))
  (λi _=>(zL i+1).toNat)
 case atStart=>exact⟨0,zR _,by simp,h0⟩
 case round=>
  clear hb
  obtain⟨k,hk,rfl,hJ⟩:=hrel
  by_cases hlt:k<len
  ·obtain⟨hbox,hcs⟩:=HRd.out wr (HJR.out k wr hJ.out)
   obtain⟨b,off,x,rfl,hV,hcell⟩:=hcs (len-1-k) (by omega)
   obtain⟨fn,tmps,assign,body,hy,hR⟩:=HY.out k _ wr hJ.out hlt ⟨x,rfl,hV⟩
   clear hcs hV
   have hi2:(((len-1-k:Nat):Int))=(len:Int)-1-k:=by omega
   rw[hi2] at hy
   clear hi2
   gi_wp2
   refine hR.mono ?_
   rintro e W3 (⟨rfl,hJ3⟩|⟨rfl,hJx3⟩)
   ·have HJ3:=Lib.hid hJ3;clear hJ3
    gi_wp2
    go_roundw
    case rel=>exact⟨k+1,by omega,by first|go_num|(simp;omega),HJ3.out⟩
    case measure=>simp[zL];omega
   ·have HJx3:=Lib.hid hJx3;clear hJx3
    gi_wp2
    refine bodyPost_ret (results_none rfl _ _ _) rfl ?_
    exact⟨⟨_,rfl⟩,.inr HJx3.out⟩
  ·obtain rfl:k=len:=by omega
   gi_wp2
   go_end0
   exact⟨⟨_,rfl⟩,.inl hJ.out⟩
theorem zkt {g:Operand} {ps:Array Tmp} {assign body:Code} {Q:Exit->Act->zA->Prop} {a:Act} {w:zA}
 (Bs len cap:Nat) (p:Option Addr) (V:Nat->Int->Prop) (Rd:zA->Prop) (hlen:len<=3000)
 (hRdc:∀W,Rd W->W.cell? ⟨Bs,0,none⟩=some (.slice p len cap)/\∀i,i<len->∃b off x,p=some ⟨b,off,none⟩/\V i x/\W.cell? ⟨b,off+i,none⟩=some (.int .i64 x))
 (hg:a.eval g=.func (.func 195) #[] #[.pointer (some ⟨Bs,0,none⟩)]) (hps:ps.size=2)
 {B:Nat} (hB:B<=w.heap.size) (I:Nat->zA->Prop) (Ix:Code->Nat->zA->Prop) (hI:∀k W W',I k W->CellsKept W W'->zB B W W'->I k W') (hIx:∀c k W W',Ix c k W->CellsKept W W'->zB B W W'->Ix c k W')
 (hRd:∀k W,I k W->Rd W) (h0:I 0 w) (a₁:Nat->Int->Act)
 (hassign:∀(l j:Nat) (x:Int) (W:zA) (K:Act->zA->Prop),K (a₁ j x) W->
   assign.wpIn (Fence.wide.inRound l) 1 zF (Exit.then K (λ_ _ _=>False)) {tmps:=(ps.zip #[.int .i64 (j:Int),.int .i64 x]).foldl (λt (p,v)=>t.setIfInBounds p v) a.tmps,defers:=[]} W)
 (hbody:∀(l k j:Nat) (x:Int) (W:zA),w.heap.size<=l->(∃r,W.heap[l]? =some (.loop r))->I k W->k<len->j=len-1-k->V j x->body.wpIn (Fence.wide.inRound l) 1 zF (zja w.heap.size I Ix k W) (a₁ j x) W)
 (hdone:∀(D:Nat) (W:zA),w.heap.size<=D->I len W->W.heap[D]? =some (.deferred (some []))->Q .normal {a with defers:={target:=.collected D,args:= #[]}::a.defers} W)
 (hstop:∀(D:Nat) (c:Code) (k:Nat) (W:zA),w.heap.size<=D->Ix c k W->W.heap[D]? =some (.deferred (some []))->c.wpIn Fence.wide 3 zF Q {a with defers:={target:=.collected D,args:= #[]}::a.defers} W):
 (Code.rangeFunc g ps assign body).wpIn Fence.wide 3 zF Q a w:=
 zqz (n:=3) rfl (by omega) hg trivial (enters_of Tryz.func195 (by kernel_rfl) rfl) (z05 Bs len cap p V Rd hlen hRdc)
  (λk args h=>by obtain⟨x,rfl,_⟩:=h;exact hps.symm) hB I Ix hI hIx hRd h0 (λ_ args=>a₁ ((args.getD 0 undef)|>zL).toNat (zL (args.getD 1 undef)))
  (λl k args W K h hK=>by obtain⟨x,rfl,_⟩:=h;exact hassign l (len-1-k) x W K (by simpa [zL] using hK))
  (λl k args W h1 h2 h3 h4 h5=>by obtain⟨x,rfl,hV⟩:=h5;simpa [zL] using hbody l k (len-1-k) x W h1 h2 h3 h4 rfl hV)
  hdone hstop
end
section
open Go.RowKit Go.Shelf Lib Str Limb
attribute [local go_sem] Oper.semAt_some
def zju (w:zA) (x y:Nat) (e:Ending) (w':zA):Prop:=
 ∃v1 v2,e=.returned (.tuple #[v1,v2])/\Sl w' v1 ((zaa B9 x).map I)/\Sl w' v2 ((zaa B9 y).map I)/\zB w.heap.size w w'
theorem zsq (va vb:Value) (m n:Nat) (w:zA) (ha:Sl w va ((zaa B9 m).map I)) (hb:Sl w vb ((zaa B9 n).map I)) (la:(zaa B9 m).length<=1000) (lb:(zaa B9 n).length<=1000) (h:m<n):
 Calls zF 118 #[va,vb] w (zju w (m/n) (m%n)):=by
 obtain⟨pa,ca,rfl, -⟩:=id ha
 obtain⟨pb,cb,rfl, -⟩:=id hb
 have HA:=hid ha;clear ha
 have HB:=hid hb;clear hb
 simp only[zV] at*
 refine(callsIn_wide (n:=3)).1 ?_
 refine callsIn_of_wp_marks Tryz.func118 rfl trivial ?_ rfl
 simp only[Tryz.ntmps118,zZ,yA,List.length_nil,Nat.reduceAdd,Nat.reduceSub,Array.replicate_succ,Array.replicate_zero,List.push_toArray,List.append_toArray,yI,yM]
 have hcmp:=λW h1 h2=>zi9 (.slice pa (zaa B9 m).length ca) (.slice pb (zaa B9 n).length cb) m n W h1 h2 la lb
 have HC:=hid hcmp;clear hcmp
 gi_wp2_with (refine⟨trivial,?_⟩;gi_at_call 125;refine(callsIn_wide.2 (HC.out _ (HA.out.below ?c1) (HB.out.below ?c2))).mono ?_)
 case c1=>exact(zM _ _).alloc (zN _) _
 case c2=>exact(zM _ _).alloc (zN _) _
 rintro e w1 ⟨c,rfl,⟨hc1,hc2⟩,hB1⟩
 have hcn:c<0:=hc1.2 h
 have HLT:=hid h
 clear hc1 hc2 h
 rw[zH] at hB1
 have bQ:Boxed w1 w.heap.size 123 (.slice none 0 0):=(hB1.block _ (by omega)).trans (Boxed.new w 123 (.slice none 0 0))
 have hB:qL w w1:=((zM _ w).alloc (zN _) _).trans (hB1.mono (by omega))
 have hq:=bQ.cell
 have hqf:=bQ.frozen
 clear hB1
 gi_wp2
 have hq2:=za9 (u:=.slice none 0 0) hq
 exact⟨.tuple #[.slice none 0 0,.slice pa (zaa B9 m).length ca],by simp[results,Tryz.f118,go_sem,hq2],_,_,rfl,by rw[Nat.div_eq_of_lt HLT.out,zaz];exact Sl.nil _,by
  have hB2:=hB.setCell (p:=⟨w.heap.size,0,none⟩) (by simp) (.slice none 0 0)
  rw[Nat.mod_eq_of_lt HLT.out];exact HA.out.below hB2,hB.setCell (p:=⟨w.heap.size,0,none⟩) (by simp) _⟩
theorem Sl.box {w:zA} {v:Value} {l:List Nat} {b n c:Nat} {s:Option Addr} (h:Sl w v (l.map I)) (hb:w.cell? ⟨b,0,none⟩=some (.slice s n c)) (u:Value):Sl (w.setCell ⟨b,0,none⟩ u) v (l.map I):=by
 obtain⟨p,cap,e,hcap,hc⟩:=h
 refine⟨p,cap,e,hcap,λi x hx=>?_⟩
 obtain⟨b',off,ep,h'⟩:=hc i x hx
 refine⟨b',off,ep,?_⟩
 rw[World.cell?_setCell_other]
 ·exact h'
 ·intro e
  rw[<-e,hb] at h'
  cases h'
  rw[List.getElem?_map] at hx
  cases hl:l[i]? with
  |none=>rw[hl] at hx;cases hx
  |some y=>rw[hl] at hx;cases hx
theorem zsr {n d:Nat} (h:(zaa B9 n).length=1) (hd:d=(zaa B9 n)[0]?.getD 0):d=n/\0<d/\d<B9:=by
 have h1:=zam (B:=B9) (by decide) n
 have h2:=zak (B:=B9) (by decide) n
 have h3:n≠0:=λe=>by rw[(zbd (B:=B9) (by decide) n).2 e] at h;cases h
 generalize zaa B9 n=l at*
 match l,h with
 |[x],_=>
  have:x<B9:=h2 x (by simp)
  simp[valL] at h1 hd
  omega
theorem zur (va vb:Value) (m n:Nat) (w:zA) (ha:Sl w va ((zaa B9 m).map I)) (hb:Sl w vb ((zaa B9 n).map I)) (la:(zaa B9 m).length<=1000) (lb:(zaa B9 n).length=1) (h:n<=m):
 Calls zF 118 #[va,vb] w (zju w (m/n) (m%n)):=by
 obtain⟨pa,ca,rfl, -⟩:=id ha
 obtain⟨pb,cb,rfl, -⟩:=id hb
 have HA:=hid ha;clear ha
 have HB:=hid hb
 simp only[zV] at*
 rw[lb]
 have hcmp:=λW h1 h2=>zi9 (.slice pa (zaa B9 m).length ca) (.slice pb (zaa B9 n).length cb) m n W h1 h2 la (by omega)
 rw[lb] at hb HB hcmp
 have HC:=hid hcmp;clear hcmp
 obtain⟨d,hd⟩:∃d,d=(zaa B9 n)[0]?.getD 0:=⟨_,rfl⟩
 obtain⟨d1,d2,d3⟩:=zsr lb hd
 have hb2:Sl w (.slice pb (zaa B9 n).length cb) ((zaa B9 n).map I):=by rw[lb];exact hb
 obtain⟨bb,offb,rfl,hbb,hcapb,hcell⟩:=hb2.at (i:=0) (by omega)
 rw[<-hd,Nat.add_zero] at hcell
 rw[lb] at hcapb
 have hsh:=λW h1=>zoy (.slice pa (zaa B9 m).length ca) (zaa B9 m) d W h1 la (zak (by decide) m) d2 d3
 rw[zam (by decide),d1] at hsh
 rw[d1] at hcell
 have HSH:=hid hsh;clear hsh hb2 hb hd d1 d2 d3 lb
 refine(callsIn_wide (n:=3)).1 ?_
 refine callsIn_of_wp_marks Tryz.func118 rfl trivial ?_ rfl
 simp only[Tryz.ntmps118,zZ,yA,List.length_nil,Nat.reduceAdd,Nat.reduceSub,Array.replicate_succ,Array.replicate_zero,List.push_toArray,List.append_toArray,yI,yM]
 gi_wp2_with (refine⟨trivial,?_⟩;gi_at_call 125;refine(callsIn_wide.2 (HC.out _ (HA.out.below ?c1) (HB.out.below ?c2))).mono ?_)
 case c1=>exact(zM _ _).alloc (zN _) _
 case c2=>exact(zM _ _).alloc (zN _) _
 rintro e w1 ⟨c,rfl,⟨hc1,hc2⟩,hB1⟩
 have hcn:¬c<0:=λk=>by have:=hc1.1 k;omega
 clear hc1 hc2 h
 rw[zH] at hB1
 have bQ:Boxed w1 w.heap.size 123 (.slice none 0 0):=(hB1.block _ (by omega)).trans (Boxed.new w 123 (.slice none 0 0))
 have hB:qL w w1:=((zM _ w).alloc (zN _) _).trans (hB1.mono (by omega))
 have hcell1:=hcell
 rw[<-hB.cell (p:=⟨bb,offb,none⟩) hbb] at hcell1
 clear hB1 hcell
 have hslA:=HA.out.below hB
 gi_wp2_with (refine⟨trivial,?_⟩;gi_at_call 159;refine(callsIn_wide.2 (HSH.out _ hslA)).mono ?_)
 clear hslA
 rintro e w2 ⟨v1,v2,rfl,hs1,hs2,hB2⟩
 obtain⟨p1,c1,e1, -⟩:=id hs1
 obtain⟨p2,c2,e2, -⟩:=id hs2
 generalize (List.map I (zaa B9 (m/n))).length=n1 at e1
 generalize (List.map I (zaa B9 (m%n))).length=n2 at e2
 subst e1 e2
 have bQ2:Boxed w2 w.heap.size 123 (.slice none 0 0):=(hB2.block _ (Boxed.lt bQ)).trans bQ
 have hq:=bQ2.cell
 have hqf:=bQ2.frozen
 have hBB:=hB.trans (hB2.mono hB.size)
 have l1:=Boxed.lt bQ
 clear hB2 bQ hcell1
 have HS1:=hid hs1;clear hs1
 have HS2:=hid hs2;clear hs2
 gi_wp2
 have hq2:=za9 (u:=.slice p1 n1 c1) hq
 have hB3:=hBB.setCell (p:=⟨w.heap.size,0,none⟩) (by simp) (.slice p1 n1 c1)
 exact⟨.tuple #[.slice p1 n1 c1,.slice p2 n2 c2],by simp[results,Tryz.f118,go_sem,hq2],_,_,rfl,HS1.out.box hq _,HS2.out.box hq _,hB3⟩
theorem zd6 {B:Nat} (hB:2<=B) {m n:Nat} (h:m<=n):(zaa B m).length<=(zaa B n).length:=by
 rcases Nat.lt_or_ge (zaa B n).length (zaa B m).length with h'|h'
 ·have:=zc2 hB h';omega
 ·exact h'
theorem zwh {B U V:Nat} (hB:2<=B) (h0:0<V) (h:V<=U):
 DivAt B (zaa B U++[0]) (zaa B V) ((zaa B U).length+1-(zaa B V).length) ((zaa B U).length+1-(zaa B V).length) (zaa B U++[0]) (List.replicate ((zaa B U).length+1-(zaa B V).length) 0):=by
 have hl:=zd6 hB h
 have hv:0<(zaa B V).length:=by
  rcases Nat.eq_zero_or_pos (zaa B V).length with e|e
  ·have:=(zbd hB V).1 (List.length_eq_zero_iff.1 e);omega
  ·exact e
 refine⟨rfl,zg4 (zak hB U) (by omega),by simp,λx hx=>by rw[List.mem_replicate] at hx;omega,?_,?_,λi _=>by rw[List.getElem?_replicate];split<;>rfl⟩
 ·rw[zgd,Nat.mul_zero,Nat.add_zero]
 ·rw[zam hB V,List.drop_append_of_le_length (by omega),zcm,Nat.mul_zero,Nat.add_zero]
  have h1:=zb6 (zg5 (zak hB U) ((zaa B U).length+1-(zaa B V).length))
  rw[List.length_drop,show(zaa B U).length-((zaa B U).length+1-(zaa B V).length)=(zaa B V).length-1 by omega] at h1
  exact Nat.lt_of_lt_of_le h1 (zmo hB (by omega))
theorem zdm {W:zA} {b g cap:Nat} {v:Value} {l:List Nat} (hb:Boxed W b 123 v) (hr:Row W g cap l):b≠g:=by
 rintro rfl
 obtain⟨cur,h,_⟩:=hr
 unfold Boxed at hb
 rw[hb] at h
 simp at h
theorem CellsKept.boxed {W W':zA} (h:CellsKept W W') {b:Nat} {t:TypeId} {v:Value} (hb:Boxed W b t v):Boxed W' b t v:=h _ _ _ _ hb
structure DivW (w:zA) (bs b4 b7 b8 g cap gq gv kv U V M:Nat) (v u Q:List Nat) (W:zA):Prop where
 bu:Boxed W b7 123 (.slice (some ⟨g,0,none⟩) U cap)
 bv:Boxed W b8 123 (.slice (some ⟨gv,0,none⟩) V kv)
 bq:Boxed W b4 123 (.slice (some ⟨gq,0,none⟩) M M)
 bb:Boxed W bs 123 (.slice (some ⟨gq,0,none⟩) M M)
 ru:Row W g cap u
 rq:Row W gq M Q
 rv:Row W gv kv v
 below:qL w W
section
variable {w:zA} {bs b4 b7 b8 g cap gq gv kv U V M:Nat} {v u Q:List Nat} {W W':zA}
theorem DivW.kept (h:DivW w bs b4 b7 b8 g cap gq gv kv U V M v u Q W) (hk:CellsKept W W') (hb:zB w.heap.size W W'):DivW w bs b4 b7 b8 g cap gq gv kv U V M v u Q W':=
 ⟨hk.boxed h.bu,hk.boxed h.bv,hk.boxed h.bq,hk.boxed h.bb,hk.row h.ru,hk.row h.rq,hk.row h.rv,h.below.trans hb⟩
theorem DivW.grow (h:DivW w bs b4 b7 b8 g cap gq gv kv U V M v u Q W) (hb:qL W W'):DivW w bs b4 b7 b8 g cap gq gv kv U V M v u Q W':=
 h.kept (zac hb) (hb.mono h.below.size)
theorem DivW.only (h:DivW w bs b4 b7 b8 g cap gq gv kv U V M v u Q W) {u':List Nat} (ho:Only g W W') (hr:Row W' g cap u') (h1:g≠gq) (h2:g≠gv) (h3:w.heap.size<=g):DivW w bs b4 b7 b8 g cap gq gv kv U V M v u' Q W':=
 ⟨(ho.block _ (Boxed.lt h.bu) (zdm h.bu h.ru)).trans h.bu,(ho.block _ (Boxed.lt h.bv) (zdm h.bv h.ru)).trans h.bv,(ho.block _ (Boxed.lt h.bq) (zdm h.bq h.ru)).trans h.bq,(ho.block _ (Boxed.lt h.bb) (zdm h.bb h.ru)).trans h.bb,
   hr,ho.row h.rq h1.symm,ho.row h.rv h2.symm,Only.below h.below (zN _) h3 ho⟩
theorem DivW.setQ (h:DivW w bs b4 b7 b8 g cap gq gv kv U V M v u Q W) (j q:Nat) (h1:g≠gq) (h2:gv≠gq) (h3:w.heap.size<=gq):DivW w bs b4 b7 b8 g cap gq gv kv U V M v u (Q.set j q) (W.setCell ⟨gq,j,none⟩ (I q)):=
 ⟨(yE W ⟨gq,j,none⟩ (I q) b7 (zdm h.bu h.rq)).trans h.bu,(yE W ⟨gq,j,none⟩ (I q) b8 (zdm h.bv h.rq)).trans h.bv,(yE W ⟨gq,j,none⟩ (I q) b4 (zdm h.bq h.rq)).trans h.bq,(yE W ⟨gq,j,none⟩ (I q) bs (zdm h.bb h.rq)).trans h.bb,
   h.ru.other (by exact h1) _,h.rq.set j q,h.rv.other (by exact h2) _,h.below.setCell (p:=⟨gq,j,none⟩) h3 _⟩
theorem DivW.setU (h:DivW w bs b4 b7 b8 g cap gq gv kv U V M v u Q W) (h1:b7≠b8) (h2:b7≠b4) (h3:b7≠bs) (h4:w.heap.size<=b7):DivW w bs b4 b7 b8 g cap gq gv kv U V M v u Q (W.setCell ⟨b7,0,none⟩ (.slice (some ⟨g,0,none⟩) U cap)):=
 ⟨by have:=h.bu;unfold Boxed at*;simp[World.setCell,Array.getElem?_modify,this],h.bv.other h1.symm _,h.bq.other h2.symm _,h.bb.other h3.symm _,
   h.ru.other (by exact(zdm h.bu h.ru).symm) _,h.rq.other (by exact(zdm h.bu h.rq).symm) _,h.rv.other (by exact(zdm h.bu h.rv).symm) _,h.below.setCell (p:=⟨b7,0,none⟩) h4 _⟩
end
theorem zke {g cap:Nat} {W W':zA} {l:List Nat} (h:Only g W W') (hr:Row W g cap l) (B:Nat):KeepsFrom B W W':=
 ⟨h.size,λk o _ hk ho=>by
   refine(h.block k (Array.getElem?_eq_some_iff.1 hk).1 λe=>?_).trans hk
   obtain⟨cur,hg,_⟩:=hr
   rw[e,hg] at hk;cases hk;cases ho⟩
theorem zts {w:zA} {base n:Nat} {v:Value} {l:List Nat} (h:w.ownsRow base 3 1 v n (l.map I)) (hn:0<n):∃g cap,v=.slice (some ⟨g,0,none⟩) n cap/\base<=g/\Row w g cap l/\l.length=n:=by
 have h':=h
 obtain⟨hl,h⟩:=h
 rcases h with⟨rfl,e⟩|⟨g,cap,cur,rfl,hb, -⟩
 ·rw[e] at hl;simp at hl;omega
 ·obtain⟨h1,h2⟩:=Row.of_own h'
  exact⟨g,cap,rfl,hb,h1,h2⟩
theorem zwi (W:zA) (r o:Nat) (ho:o=W.heap.size):Sl (W.alloc (.cells #[I r] 3)) (.slice (some ⟨o,0,none⟩) 1 1) ([r].map I):=
 ho▸Sl.mk (b:=W.heap.size) (off:=0) (cap:=1) (xs:=[I r]) (zN _) (λi x hx=>by
  match i,hx with
  |0,hx=>simp at hx;subst hx;simp)
theorem zo0 (va vb:Value) (a b:List Nat) (p:Nat) (w:zA) (ha:Sl w va (a.map I)) (hb:Sl w vb (b.map I)) (sa:zal B9 a) (sb:zal B9 b) (la:a.length<=1000) (lb:b.length<=1000) (hp:valL B9 a*valL B9 b=p) (h0:p≠0):
 Calls zF 67 #[va,vb] w (λe w'=>∃g cap,e=.returned (.slice (some ⟨g,0,none⟩) (zaa B9 p).length cap)/\w.heap.size<=g/\Row w' g cap (zaa B9 p)/\zB w.heap.size w w'):=by
 refine(zox va vb a b w ha hb sa sb la lb).mono ?_
 rintro e w' ⟨v,rfl,hown,hB⟩
 rw[zjp (by decide) sa sb,hp] at hown
 have hn:0<(zaa B9 p).length:=by
  rcases Nat.eq_zero_or_pos (zaa B9 p).length with e|e
  ·exact absurd ((zbd (by decide) p).1 (List.length_eq_zero_iff.1 e)) h0
  ·exact e
 obtain⟨g,cap,rfl,h1,h2,_⟩:=zts hown hn
 exact⟨g,cap,rfl,h1,h2,hB⟩
theorem zwj (w:zA) (t:TypeId):∀(j:Nat) (u:Value),[I 0][j]? =some u->(w.alloc (.cells #[.int .i64 0] t)).cell? ((⟨w.heap.size,0,none⟩:Addr).add j)=some u:=zep w (.int .i64 0) t
theorem z06 (top f:Nat) (hf:f=B9/(top+1)):Value.int .i64 (1000000000/((top:Int)+1))=I f:=by
 subst hf;simp[I,B9]
theorem zwk (top f:Nat) (hf:f=B9/(top+1)) (h:1<=top):zal B9 [f]:=by
 intro x hx
 simp at hx;subst hx;subst hf
 have:B9/(top+1)<=B9/2:=Nat.div_le_div_left (by omega) (by omega)
 unfold B9 at*;omega
theorem zpt {m f:Nat} (h:f<B9):(zaa B9 (m*f)).length<=(zaa B9 m).length+1:=by
 refine zfv (by decide) ?_
 rw[Nat.pow_succ]
 exact Nat.mul_lt_mul'' (zgb (by decide) m) h
theorem hml0 {m n f:Nat} (h:1<=f):m*f/(n*f)=m/n/\m*f%(n*f)=m%n*f:=
 ⟨Nat.mul_div_mul_right _ _ (by omega),Nat.mul_mod_mul_right _ _ _⟩
theorem zss (va vb:Value) (m n:Nat) (w:zA) (ha:Sl w va ((zaa B9 m).map I)) (hb:Sl w vb ((zaa B9 n).map I)) (la:(zaa B9 m).length<=900) (lb:(zaa B9 n).length<=900) (l2:2<=(zaa B9 n).length) (h:n<=m):
 Calls zF 118 #[va,vb] w (zju w (m/n) (m%n)):=by
 obtain⟨pa,ca,rfl, -⟩:=id ha
 obtain⟨pb,cb,rfl, -⟩:=id hb
 have HA:=hid ha;clear ha
 have HB:=hid hb
 simp only[zV] at*
 have hcmp:=λW h1 h2=>zi9 (.slice pa (zaa B9 m).length ca) (.slice pb (zaa B9 n).length cb) m n W h1 h2 (by omega) (by omega)
 have HC:=hid hcmp;clear hcmp
 obtain⟨top,htop⟩:∃d,d=(zaa B9 n)[(zaa B9 n).length-1]?.getD 0:=⟨_,rfl⟩
 obtain⟨bb,offb,rfl,hbb,hcapb,hcell⟩:=hb.at (i:=(zaa B9 n).length-1) (by omega)
 have htlt:top<B9:=by rw[htop];exact zaj (zak (by decide) n) (by decide) _
 rw[<-htop] at hcell
 have HTOP:=hid htop;clear htop hb
 obtain⟨i0,hi,hz0,hz1,hz2⟩:=info_parts zdv
 obtain⟨f,hf⟩:∃f,f=B9/(top+1):=⟨_,rfl⟩
 have hf1:1<=f:=by rw[hf,Nat.le_div_iff_mul_le (by omega)];omega
 obtain⟨lm,hlm⟩:∃k,k=(zaa B9 m).length:=⟨_,rfl⟩
 obtain⟨ln,hln⟩:∃k,k=(zaa B9 n).length:=⟨_,rfl⟩
 rw[<-hln] at l2 lb hcapb hcell HB HC⊢
 rw[<-hlm] at la HA HC⊢
 have HLM:=hid hlm;clear hlm
 have HLN:=hid hln;clear hln
 have HF:=hid hf;clear hf
 have hlt2:((ln:Int)==1)=false:=by rw[beq_eq_false_iff_ne];omega
 have tt:top<1000000000:=htlt
 have e1:((ln:Int)-1).toNat=ln-1:=by omega
 refine(callsIn_wide (n:=3)).1 ?_
 refine callsIn_of_wp_marks Tryz.func118 rfl trivial ?_ rfl
 simp only[Tryz.ntmps118,zZ,yA,List.length_nil,Nat.reduceAdd,Nat.reduceSub,Array.replicate_succ,Array.replicate_zero,List.push_toArray,List.append_toArray,yI,yM]
 gi_wp2_with (refine⟨trivial,?_⟩;gi_at_call 125;refine(callsIn_wide.2 (HC.out _ (HA.out.below ?c1) (HB.out.below ?c2))).mono ?_)
 case c1=>exact(zM _ _).alloc (zN _) _
 case c2=>exact(zM _ _).alloc (zN _) _
 rintro e w1 ⟨c,rfl,⟨hc1,hc2⟩,hB1⟩
 have hcn:¬c<0:=λk=>by have:=hc1.1 k;omega
 have HLE:=hid h
 clear hc1 hc2 h
 rw[zH] at hB1
 have bQ:Boxed w1 w.heap.size 123 (.slice none 0 0):=(hB1.block _ (by omega)).trans (Boxed.new w 123 (.slice none 0 0))
 have hB:qL w w1:=((zM _ w).alloc (zN _) _).trans (hB1.mono (by omega))
 have hcell1:=hcell
 rw[<-hB.cell (p:=⟨bb,offb+(ln-1),none⟩) hbb] at hcell1
 clear hB1 hcell
 have HT:=hid htlt;clear htlt
 have htop1:1<=top:=by
  have:=HTOP.out
  rcases zg7 (B:=B9) (by decide) n with e|⟨i,x,e,hx⟩
  ·have:=HLN.out;rw[e] at this;simp at this;omega
  ·rw[e] at this;simp at this;omega
 have hm0:m*f≠0:=by
  have:=HLE.out
  have h2:=HLN.out
  have:n≠0:=λe=>by rw[e,zaz] at h2;simp at h2;omega
  exact Nat.mul_ne_zero (by omega) (by omega)
 have hn0:n*f≠0:=by
  have h2:=HLN.out
  have:n≠0:=λe=>by rw[e,zaz] at h2;simp at h2;omega
  exact Nat.mul_ne_zero (by omega) (by omega)
 have ef:=z06 top f HF.out
 have sf:=zwk top f HF.out htop1
 have HM0:=hid hm0
 have HN0:=hid hn0
 have t1:=λW h1 h2=>zo0 (.slice pa lm ca) (.slice (some ⟨w1.heap.size,0,none⟩) 1 1) (zaa B9 m) [f] (m*f) W h1 h2 (zak (by decide) m) sf (by rw[<-HLM.out];omega) (by simp) (by rw[zam (by decide)];simp[valL]) hm0
 have T1:=hid t1
 have SF:=hid sf
 clear t1 sf hm0 hn0
 have EF:=hid ef;clear ef
 gi_wp2_with (refine⟨trivial,?_⟩;gi_at_call 67;rw[EF.out];refine(callsIn_wide.2 (T1.out _ (HA.out.below (hB.alloc hB.size _)) (zwi _ _ _ rfl))).mono ?_)
 rintro e w2 ⟨gu,capu,rfl,hgu,hrowu,hB2⟩
 rw[zH] at hgu hB2
 have hBu:qL w w2:=(hB.alloc hB.size _).trans (hB2.mono (by have:=hB.size;simp;omega))
 have bQ2:Boxed w2 w.heap.size 123 (.slice none 0 0):=(hB2.block _ (by have:=Boxed.lt bQ;omega)).trans ((Below.heap_alloc _ _ _ (Boxed.lt bQ)).trans bQ)
 have hown:=(hrowu.alloc (.cells #[.int .i64 0] 3)).own (base:=w.heap.size) (by have:=hB.size;omega)
 have LU:=hid (show(zaa B9 (m*f)).length<=902 by have:=zpt (m:=m) (f:=f) (SF.out f (by simp));rw[<-HLM.out] at this;omega)
 have hlu:=LU.out
 gi_wp2_with (gi_at_builtin;refine wpListIn_append_own _ rfl _ _ 123 rfl w.heap.size 3 i0 (.int .i64 0) 1 8 Tryz.underlying123 hi hz0 hz1 hz2 rfl (by decide) _ _ _ rfl hown ⟨w2.heap.size,0,none⟩ 1 1 [I 0] rfl rfl (zwj _ _) (zfn _) (by unfold maxLen;omega) (by omega) (by have:=hBu.size;simp;omega) ?_)
 intro v' w3 hown3 hgrow _
 have hB3:qL w w3:=(hBu.alloc hBu.size _).grown hgrow (by have:=hBu.size;simp;omega) (λq e=>(hown.lt q e).1)
 obtain⟨gu',capu',rfl,hgu',hrowu3,_⟩:=zts (l:=zaa B9 (m*f)++[0]) (by simpa using hown3) (by omega)
 have bQ3:Boxed w3 w.heap.size 123 (.slice none 0 0):=by
  have h1:=hgrow.block w.heap.size (by simp;have:=Boxed.lt bQ2;omega) (λe=>by
   have:=(hown.lt _ e.symm).2
   simp[Value.ownBlock] at e
   have:=hB.size;omega)
  exact h1.trans ((Below.heap_alloc _ _ _ (Boxed.lt bQ2)).trans bQ2)
 clear hown hown3 hgrow hrowu bQ bQ2
 have t2:=λW h1 h2=>zo0 (.slice (some ⟨bb,offb,none⟩) ln cb) (.slice (some ⟨w3.heap.size,0,none⟩) 1 1) (zaa B9 n) [f] (n*f) W h1 h2 (zak (by decide) n) SF.out (by rw[<-HLN.out];omega) (by simp) (by rw[zam (by decide)];simp[valL]) HN0.out
 have T2:=hid t2
 clear t2
 gi_wp2_with (refine⟨trivial,?_⟩;gi_at_call 67;refine(callsIn_wide.2 (T2.out _ (HB.out.below (hB3.alloc hB3.size _)) (zwi _ _ _ rfl))).mono ?_)
 rintro e w4 ⟨gv,capv,rfl,hgv,hrowv,hB4⟩
 rw[zH] at hgv hB4
 have hB5:qL w w4:=(hB3.alloc hB3.size _).trans (hB4.mono (by have:=hB3.size;simp;omega))
 have lu:=hrowu3.lt
 have bQ4:Boxed w4 w.heap.size 123 (.slice none 0 0):=(hB4.block _ (by have:=Boxed.lt bQ3;omega)).trans ((Below.heap_alloc _ _ _ (Boxed.lt bQ3)).trans bQ3)
 have hrowu4:Row w4 gu' capu' (zaa B9 (m*f)++[0]):=(hrowu3.alloc _).below hB4 (by omega)
 have lv:=hrowv.lt
 clear hB4 hrowu3 bQ3 hB3 hBu hB2
 gi_wp2
 have hVU:(zaa B9 (n*f)).length<=(zaa B9 (m*f)).length:=zd6 (by decide) (Nat.mul_le_mul_right f HLE.out)
 have hmU:lm<=(zaa B9 (m*f)).length:=by rw[HLM.out];exact zd6 (by decide) (Nat.le_mul_of_pos_right _ hf1)
 obtain⟨U,hU⟩:∃k,k=(zaa B9 (m*f)).length:=⟨_,rfl⟩
 obtain⟨V,hV⟩:∃k,k=(zaa B9 (n*f)).length:=⟨_,rfl⟩
 rw[<-hU] at hlu hVU hmU⊢
 rw[<-hV] at hVU⊢
 have HU:=hid hU;clear hU
 have HV:=hid hV;clear hV
 have bU:=(Boxed.new w4 123 (.slice (some ⟨gu',0,none⟩) (U+1) capu')).alloc (.cells #[.slice (some ⟨gv,0,none⟩) V capv] 123)
 have bV:=Boxed.new (w4.alloc (.cells #[.slice (some ⟨gu',0,none⟩) (U+1) capu'] 123)) 123 (.slice (some ⟨gv,0,none⟩) V capv)
 have bQ5:=(bQ4.alloc (.cells #[.slice (some ⟨gu',0,none⟩) (U+1) capu'] 123)).alloc (.cells #[.slice (some ⟨gv,0,none⟩) V capv] 123)
 have ru:=(hrowu4.alloc (.cells #[.slice (some ⟨gu',0,none⟩) (U+1) capu'] 123)).alloc (.cells #[.slice (some ⟨gv,0,none⟩) V capv] 123)
 have rv:=(hrowv.alloc (.cells #[.slice (some ⟨gu',0,none⟩) (U+1) capu'] 123)).alloc (.cells #[.slice (some ⟨gv,0,none⟩) V capv] 123)
 have hB6:=(hB5.alloc hB5.size (.cells #[.slice (some ⟨gu',0,none⟩) (U+1) capu'] 123)).alloc (by have:=hB5.size;simp;omega) (.cells #[.slice (some ⟨gv,0,none⟩) V capv] 123)
 rw[zH] at bV
 have lq:=Boxed.lt bQ4
 have lu4:=hrowu4.lt
 clear bQ4 hrowu4 hrowv hB5 hB
 obtain⟨z,hz⟩:∃z,z=w4.heap.size:=⟨_,rfl⟩
 rw[<-hz] at bU bV lv lq lu4⊢
 clear hz
 generalize (w4.alloc (.cells #[.slice (some ⟨gu',0,none⟩) (U+1) capu'] 123)).alloc (.cells #[.slice (some ⟨gv,0,none⟩) V capv] 123)=W5 at*
 obtain⟨M,hM⟩:∃M,M=U+1-V:=⟨_,rfl⟩
 have hMi:(U:Int)+1-V=M:=by omega
 obtain⟨W6,hmk,rq,hB7⟩:=zg2 W5 w.heap.size M (by have:=hB6.size;omega) (by omega)
 rw[<-hMi] at hmk
 have HMI:=hid hMi;clear hMi
 have HM:=hid hM;clear hM
 have cu:=bU.cell;have cv:=bV.cell
 have bQ6:Boxed W6 w.heap.size 123 (.slice none 0 0):=(hB7.block _ (Boxed.lt bQ5)).trans bQ5
 have bU6:Boxed W6 z 123 (.slice (some ⟨gu',0,none⟩) (U+1) capu'):=(hB7.block _ (Boxed.lt bU)).trans bU
 have bV6:Boxed W6 (z+1) 123 (.slice (some ⟨gv,0,none⟩) V capv):=(hB7.block _ (Boxed.lt bV)).trans bV
 have ru6:=ru.below hB7 ru.lt
 have rv6:=rv.below hB7 rv.lt
 have hB8:qL w W6:=hB6.trans (hB7.mono hB6.size)
 have lz:=Boxed.lt bV
 clear bQ5 bU bV ru rv hB7
 have cq6:=bQ6.cell
 have fq6:=bQ6.frozen
 gi_loopw [] (λwr=>wr=W5) (λ_=>0)
 case atStart=>rfl
 case round=>
 subst hrel
 have CU:=hid cu
 gi_wp2_with (refine⟨trivial,?_⟩;gi_at_call 155;refine(callsIn_wide.2 (zhu _ _ _ _ _ rfl)).mono ?_;rintro e w' ⟨rfl,rfl⟩)
 have hd:=zwh (B:=B9) (by decide) (Nat.pos_of_ne_zero HN0.out) (Nat.mul_le_mul_right f HLE.out)
 rw[<-HU.out,<-HV.out,<-HM.out] at hd
 have hW7:DivW w W6.heap.size w.heap.size z (z+1) gu' capu' wr.heap.size gv capv (U+1) V M (zaa B9 (n*f)) (zaa B9 (m*f)++[0]) (List.replicate M 0)
  ((W6.setCell ⟨w.heap.size,0,none⟩ (.slice (some ⟨wr.heap.size,0,none⟩) M M)).alloc (.cells #[.slice (some ⟨wr.heap.size,0,none⟩) M M] 123)):=by
  have hs:(W6.setCell ⟨w.heap.size,0,none⟩ (.slice (some ⟨wr.heap.size,0,none⟩) M M)).heap.size=W6.heap.size:=by simp[World.setCell]
  have l1:=Boxed.lt bQ6
  refine⟨(bU6.other (by omega) _).alloc _,(bV6.other (by omega) _).alloc _,Boxed.alloc ?_ _,?_,(ru6.other (by exact(zdm bQ6 ru6).symm) _).alloc _,(rq.other (by exact(zdm bQ6 rq).symm) _).alloc _,(rv6.other (by exact(zdm bQ6 rv6).symm) _).alloc _,?_⟩
  ·unfold Boxed at*;simp[World.setCell,Array.getElem?_modify,bQ6]
  ·have:=Boxed.new (W6.setCell ⟨w.heap.size,0,none⟩ (.slice (some ⟨wr.heap.size,0,none⟩) M M)) 123 (.slice (some ⟨wr.heap.size,0,none⟩) M M)
   rw[hs] at this;exact this
  ·exact(hB8.setCell (p:=⟨w.heap.size,0,none⟩) (by simp) _).alloc (by rw[hs];exact hB8.size) _
 have hs8:(W6.setCell ⟨w.heap.size,0,none⟩ (.slice (some ⟨wr.heap.size,0,none⟩) M M)).heap.size=W6.heap.size:=by simp[World.setCell]
 have hbs:=rq.lt
 have hV2:2<=V:=by
  have h1:=zd6 (B:=B9) (by decide) (Nat.le_mul_of_pos_right n hf1)
  rw[<-HLN.out,<-HV.out] at h1;omega
 have hVl:=HV.out
 have hUl:=HU.out
 have hMl:=HM.out
 have hml:=hml0 (m:=m) (n:=n) (f:=f) hf1
 clear hB6 hmk rq CU cu cv cq6 fq6 bQ6 bU6 bV6 ru6 rv6 hB8 hs8 hcell1 T1 T2 EF HT HC HA HB HTOP HLM HLN LU htop1
 generalize (W6.setCell ⟨w.heap.size,0,none⟩ (.slice (some ⟨wr.heap.size,0,none⟩) M M)).alloc (.cells #[.slice (some ⟨wr.heap.size,0,none⟩) M M] 123)=W8 at*
 generalize W6.heap.size=bs at*
 generalize wr.heap.size=gq at*
 have hVn:V=(zaa B9 (n*f)).length:=HV.out
 have hUn:U=(zaa B9 (m*f)).length:=HU.out
 have hMn:M=U+1-V:=HM.out
 have sv:=zak (B:=B9) (by decide) (n*f)
 have hvt:0<(zaa B9 (n*f))[V-2+1]?.getD 0:=by
  rcases zg7 (B:=B9) (by decide) (n*f) with e|⟨i,x,e,hx⟩
  ·rw[e] at hVn;simp at hVn;omega
  ·rw[e] at hVn⊢
   simp at hVn
   rw[show V-2+1=i.length by omega];simp;omega
 obtain⟨v,hv⟩:∃v,v=zaa B9 (n*f):=⟨_,rfl⟩
 rw[<-hv] at sv hvt hd hW7 hVn
 have HVV:=hid hv;clear hv
 obtain⟨u0,hu0⟩:∃u0,u0=zaa B9 (m*f)++[0]:=⟨_,rfl⟩
 rw[<-hu0] at hd hW7
 have hu0l:u0.length=U+1:=by rw[hu0];simp;omega
 have HU0:=hid hu0;clear hu0
 have HD:=hid hd;clear hd
 have HW:=hid hW7
 have hMV:M+V=U+1:=by omega
 have hguv:gu'<gv:=by omega
 have hM3:M<=903:=by omega
 have HMV:=hid hMV
 have HVN:=hid hVn;clear hVn
 have HUL0:=hid hu0l;clear hu0l
 clear HV HU HM hVl hUl hMl hMn hUn HMI hMV hi hz0 hz1 hz2 i0 hcapb lb l2 hlt2 tt e1 hcn HM0 hgu hgv lu
 refine zkt bs M M (some ⟨gq,0,none⟩) (λ_ _=>True) (λW=>W.cell? ⟨bs,0,none⟩=some (.slice (some ⟨gq,0,none⟩) M M)/\∃Q,Q.length=M/\Row W gq M Q) (by omega)
  (λW h=>⟨h.1,λi hi=>by
    obtain⟨Q,hQ,hr⟩:=h.2
    exact⟨gq,0,_,rfl,trivial,by rw[Nat.zero_add];exact hr.cell (getD_some (by omega))⟩⟩) rfl rfl (B:=w.heap.size) hW7.below.size
  (λk W=>∃u Q,DivAt B9 u0 v M (M-k) u Q/\DivW w bs w.heap.size z (z+1) gu' capu' gq gv capv (U+1) V M v u Q W)
  (λ_ _ _=>False)
  (λk W W' h hk hb=>let ⟨u,Q,h1,h2⟩:=h;⟨u,Q,h1,h2.kept hk hb⟩) (λ_ _ _ _ h _ _=>h)
  (λk W h=>let ⟨u,Q,h1,h2⟩:=h;⟨h2.bb.cell,Q,h1.ql,h2.rq⟩)
  ⟨_,_,HD.out,HW.out⟩ ?a1 ?assign ?body ?done ?stop
 case stop=>exact λ_ _ _ _ _ h _=>h.elim
 case assign=>
  intro l j x W K hK
  gi_wp2
  exact hK
 case body=>
  rintro l k j x W hl hlr ⟨u,Q,hd,hW⟩ hk hj-
  have hj1:M-k=j+1:=by omega
  have hjM:j<M:=by omega
  rw[hj1] at hd
  have hul:u.length=U+1:=by rw[hd.ul,HUL0.out]
  have hjb:j+v.length+1<=u.length:=by rw[hul,<-HVN.out];have:=HMV.out;omega
  have est:=λW hru hrv=>zqy gu' capu' gv capv u v j (V-2) W hru hrv hd.us sv (by have:=HVN.out;omega) hjb (by omega) (by have:=HVN.out;omega) (hd.below (by decide) (by omega)) hvt
  rw[hul,<-HVN.out] at est
  have EST:=hid est;clear est
  have HD:=hid hd;clear hd
  have HJ1:=hid hj1;clear hj1 hj
  have HUL:=hid hul;clear hul
  have HJB:=hid hjb;clear hjb
  have hlr':=hlr
  have cu:=hW.bu.cell;have cv:=hW.bv.cell
  gi_wp2_with (refine⟨trivial,?_⟩;gi_at_call 160;refine(CallsIn.inRound l (callsIn_wide.2 (EST.out _ hW.ru hW.rv))).mono ?_)
  rintro e W1 ⟨q0,rfl,hq1,hq2,hbe⟩
  have hW1:=hW.grow hbe
  have kW1:=(za0 hbe).from W8.heap.size
  clear hbe cu cv hW
  have HQ1:=hid hq1;clear hq1
  have HQ2:=hid hq2;clear hq2
  have HW1:=hid hW1
  have KW1:=hid kW1;clear kW1 hW1
  gi_wp2
  gi_loopw [10] (λt wr=>∃q,t=I q/\Hid (valL B9 (u.drop j)/valL B9 v<=q)/\Hid (q<=2*B9)/\Hid (DivW w bs w.heap.size z (z+1) gu' capu' gq gv capv (U+1) V M v u Q wr)/\Hid (KeepsFrom W8.heap.size W wr))
   (λt _=>(zL t).toNat)
  case atStart=>exact⟨q0,rfl,HQ1.out,HQ2.out,HW1.out,KW1.out⟩
  case round=>
   clear HQ1 HQ2 HW1 KW1
   obtain⟨q,rfl,hq1,hq2,hWr,hKr⟩:=hrel
   have bu:=hWr.out.bu;have bv:=hWr.out.bv
   have cu:=bu.cell;have cv:=bv.cell
   have fu:=bu.frozen
   have tk:=zyv gu' capu' u v (.slice (some ⟨gv,0,none⟩) V capv) j q wr hWr.out.ru (λW' ho=>by rw[HVN.out];exact(ho.row hWr.out.rv (by omega)).sl) HD.out.us sv HJB.out (by have:=HUL.out;omega) (by have:=HVN.out;omega) hq2.out
   rw[HUL.out] at tk
   have TK:=hid tk;clear tk
   have tsp:=zej (B:=B9) (by decide) (q:=q) sv j HD.out.us (v.length+1) HJB.out
   have stp:=zoz (B:=B9) (by decide) (q:=q) HD.out.us sv HJB.out (HD.out.below (by decide) (by have:=HJB.out;omega))
   have TSP:=hid tsp;clear tsp
   have STP:=hid stp;clear stp
   gi_wp2_with (refine⟨trivial,?_⟩;gi_at_call 161;refine(CallsIn.inRound l (callsIn_wide.2 TK.out)).mono ?_)
   rintro e W2 ⟨rfl,hru2,ho2⟩
   have hW2:=hWr.out.only ho2 hru2 (by omega) (by omega) (by omega)
   have kW2:=hKr.out.trans (zke ho2 hWr.out.ru W8.heap.size)
   clear bu bv cu cv fu
   have bu:=hW2.bu;have bv:=hW2.bv
   have cu:=bu.cell;have cv:=bv.cell
   have fu:=bu.frozen
   have HW2:=hid hW2;clear hW2
   have KW2:=hid kW2;clear kW2
   have HRU2:=hid hru2;clear hru2 ho2
   by_cases hcar:0<(zba B9 q v j u (v.length+1)).2
   ·have rs:=zsp gu' capu' (zba B9 q v j u (v.length+1)).1 v (.slice (some ⟨gv,0,none⟩) V capv) j q W2 HRU2.out (λW' ho=>by rw[HVN.out];exact(ho.row HW2.out.rv (by omega)).sl) TSP.out.2.1 sv (by rw[TSP.out.1];exact HJB.out) (by rw[TSP.out.1];have:=HUL.out;omega) (by have:=HVN.out;omega) hq2.out
    rw[TSP.out.1,HUL.out,zwe (by decide) sv HD.out.us (v.length+1) (by have:=HJB.out;omega)] at rs
    have RS:=hid rs;clear rs
    have hlt:=STP.out.2 (by omega)
    have hd1:decide (0<(zba B9 q v j u (v.length+1)).2)=true:=by simpa using hcar
    have HQL:=hid ((Nat.div_lt_iff_lt_mul (Nat.lt_of_le_of_lt (zR _) HD.out.high)).2 hlt);clear hlt
    rw[hd1]
    clear hd1 hcar
    have hq0:0<q:=Nat.lt_of_le_of_lt (zR _) HQL.out
    gi_wp2_with (refine⟨trivial,?_⟩;gi_at_call 162;refine(CallsIn.inRound l (callsIn_wide.2 RS.out)).mono ?_)
    rintro e W3 ⟨rfl,hru3,ho3⟩
    have hW3:=HW2.out.only ho3 hru3 (by omega) (by omega) (by omega)
    have kW3:=KW2.out.trans (zke ho3 HRU2.out W8.heap.size)
    clear bu bv cu cv fu
    have bu:=hW3.bu
    have cu:=bu.cell
    have fu:=bu.frozen
    have HW3:=hid hW3;clear hW3
    have KW3:=hid kW3;clear kW3 hru3 ho3
    have hq3:q<=2000000000:=hq2.out
    gi_wp2
    go_roundw
    case rel=>exact⟨q-1,by show Value.int .i64 _=Value.int .i64 _;congr 1;omega,Nat.le_sub_one_of_lt HQL.out,Nat.le_trans (Nat.sub_le _ _) hq2.out,HW3.out.setU (by omega) (by omega) (by omega) (by omega),KW3.out.trans ((KeepsOthers.setCell _ _ _).from _)⟩
    case measure=>simp[zL];omega
   ·have hd1:decide (0<(zba B9 q v j u (v.length+1)).2)=false:=by simpa using hcar
    have hst:=HD.out.step (by decide) sv hjM HJB.out hq1.out (by omega)
    have HST:=hid hst;clear hst
    rw[hd1]
    clear hd1 hcar
    have bq:=HW2.out.bq
    have cq:=bq.cell
    have hqc:=HW2.out.rq.cell (getD_some (show j<Q.length by rw[HD.out.ql];exact hjM))
    have hqf:=HW2.out.rq.frozen j
    gi_wp2
    refine⟨KW2.out.trans ((KeepsOthers.setCell _ _ _).from _),_,_,?_,HW2.out.setQ j q (by omega) (by omega) (by omega)⟩
    rw[show M-(k+1)=j by have:=HJ1.out;omega]
    exact HST.out.1
 case done=>
  rintro D W hD ⟨u,Q,hd,hW⟩ hK
  rw[Nat.sub_self] at hd
  have hout:=hd.out
  rw[HVV.out,HU0.out,zam (by decide),zcm,Nat.mul_zero,Nat.add_zero,zam (by decide),hml.1,hml.2] at hout
  have bu:=hW.bu;have bq:=hW.bq
  have cu:=bu.cell;have cq:=bq.cell;have fq:=bq.frozen
  have hsu:=hW.ru.sl
  have hul:u.length=U+1:=by rw[hd.ul,HUL0.out]
  rw[hul] at hsu
  have htr:=λW' h=>zi6 (some ⟨gu',0,none⟩) (U+1) capu' u W' h (by omega)
  rw[zbu (by decide) hd.us,hout.2] at htr
  have HTR:=hid htr;clear htr
  have HQ:=hid hW;clear hW
  have HD:=hid hd;clear hd
  have HO:=hid hout;clear hout
  have HK:=hid hK;clear hK
  gi_wp2_with (refine⟨trivial,?_⟩;gi_at_call 114;refine(callsIn_wide.2 (HTR.out _ hsu)).mono ?_)
  rintro e w9 ⟨rfl,rfl⟩
  have hsl9:=HQ.out.ru.sl.trim
  rw[zbu (by decide) HD.out.us,HO.out.2] at hsl9
  have hfs:=SF.out f (by simp)
  have hsh:=λh=>zoy (.slice (some ⟨gu',0,none⟩) (zaa B9 (m%n*f)).length capu') (zaa B9 (m%n*f)) f W h (by have:=zkn u;rw[zbu (by decide) HD.out.us,HO.out.2] at this;omega) (zak (by decide) _) hf1 hfs
  rw[zam (by decide),Nat.mul_div_cancel _ hf1] at hsh
  have HSH:=hid (hsh hsl9);clear hsh hsl9 hfs
  gi_wp2_with (refine⟨trivial,?_⟩;gi_at_call 159;refine(callsIn_wide.2 HSH.out).mono ?_)
  clear HSH
  rintro e w10 ⟨v1,v2,rfl,hs1,hs2,hB10⟩
  have hW10:=HQ.out.grow hB10
  have hK10:=(hB10.block D (Array.getElem?_eq_some_iff.1 HK.out).1).trans HK.out
  obtain⟨p1,c1,e1, -⟩:=id hs1
  obtain⟨p2,c2,e2, -⟩:=id hs2
  generalize (List.map I (zaa B9 (m%n))).length=n1 at e1
  generalize (List.map I (zaa B9 (m%n*f%f))).length=n2 at e2
  subst e1 e2
  have HS1:=hid hs1;clear hs1 hs2 bu bq cu cq fq hB10
  have hqs:=hW10.rq.sl
  have hql:=HD.out.ql
  rw[hql] at hqs
  have htr:=zi6 (some ⟨gq,0,none⟩) M M Q w10 hqs (by omega)
  rw[zbu (by decide) HD.out.qs,HO.out.1] at htr
  have HTQ:=hid htr;clear htr hqs hql
  have bq:=hW10.bq
  have cq:=bq.cell;have fq:=bq.frozen
  have HW10:=hid hW10;clear hW10
  have HK10:=hid hK10;clear hK10
  gi_wp2_with (refine⟨trivial,?_⟩;gi_at_call 114;refine(callsIn_wide.2 HTQ.out).mono ?_)
  rintro e w11 ⟨rfl,rfl⟩
  clear HTQ
  gi_wp2
  have hK11:=(KeepsOthers.setCell w10 ⟨w.heap.size,0,none⟩ (.slice (some ⟨gq,0,none⟩) (zaa B9 (m/n)).length M)).same D _ HK10.out rfl
  refine⟨by simp,.inl ⟨_,_,rfl,run_takeDeferred hK11,?_⟩⟩
  have hc5:=(zbk hK11).cell (za9 cq)
  have hsq:=HW10.out.rq.sl
  rw[HD.out.ql] at hsq
  have hsq:=Sl.trim (l:=Q) (by rw[HD.out.ql];exact hsq)
  rw[zbu (by decide) HD.out.qs,HO.out.1] at hsq
  exact⟨.tuple #[.slice (some ⟨gq,0,none⟩) (zaa B9 (m/n)).length M,.slice p1 n1 c1],by simp[results,Tryz.f118,go_sem,hc5],_,_,rfl,(zbk hK11).sl (hsq.box cq _),(zbk hK11).sl (HS1.out.box cq _),
   zby (HW10.out.below.setCell (p:=⟨w.heap.size,0,none⟩) (by simp) _) (by have:=hW7.below.size;omega) hK11⟩
theorem znf (va vb:Value) (m n:Nat) (w:zA) (ha:Sl w va ((zaa B9 m).map I)) (hb:Sl w vb ((zaa B9 n).map I)) (la:(zaa B9 m).length<=900) (lb:(zaa B9 n).length<=900) (h0:n≠0):
 Calls zF 118 #[va,vb] w (zju w (m/n) (m%n)):=by
 rcases Nat.lt_or_ge m n with h|h
 ·exact zsq va vb m n w ha hb (by omega) (by omega) h
 ·have hl:(zaa B9 n).length≠0:=λe=>h0 ((zbd (by decide) n).1 (List.length_eq_zero_iff.1 e))
  rcases Nat.lt_or_ge (zaa B9 n).length 2 with h2|h2
  ·exact zur va vb m n w ha hb (by omega) (by omega) h
  ·exact zss va vb m n w ha hb la lb h2 h
end
end Go.Proofs.YtccijmidbdapaaaGreatDoor
