/- kingpostlaw10.from. -/
import Derived.Test.YtlaccnphhomdgaaGreatDoorQ17
import Derived.Test.YtlaccnphhomdgaaGreatDoorQ02
import Derived.Laws.CopyRow
import Derived.Laws.CopyOwn
import Derived.Lib.Overlaps
import Derived.Lib.AppendZerosOnto
import Derived.Deep.Quiet
set_option maxRecDepth 100000
set_option maxHeartbeats 8000000
open Go renaming World → zA, Calls → zC
open Go.RowKit renaming Below → zB, intOf → zL
open Go.Proofs.Tryz renaming prog → zF
open Go.World renaming alloc_heap_new → zG
open Go.IntWalk renaming i64_in → zI
open Go.Joins renaming cell_of_block → zJ
open Go.RowKit.Below renaming refl → zM
open Nat renaming le_refl → zN, zero_le → zR
open List renaming length_append → zU, length_map → zV, length_drop → zW, length_take → zX, size_toArray → zZ, append_assoc → yL, take_append_drop → yN
namespace Go.Proofs.YtlaccnphhomdgaaGreatDoor
section
open Go.RowKit Go.Shelf Lib Str Limb Geo
attribute [local go_sem] Oper.semAt_some
structure FroS (w:zA) (N:Nat) (y:List Pt) (s1 s2:Value) (q:Nat×Value) (f:Nat->Bool) (W:zA):Prop where
 bel:zB w.heap.size w W
 nw:f 6=true->W.heap[q.1]? =some (.cells #[s1,s2] 22 (0,0))
 rs:f 7=true->W.ownsRow w.heap.size 27 2 q.2 N (z3k y)
section
variable {w W W':zA} {s1 s2:Value} {N:Nat} {y:List Pt} {q:Nat×Value} {f g:Nat->Bool}
theorem FroS.congr (h:FroS w N y s1 s2 q f W) (e6:g 6=f 6) (e7:g 7=f 7):FroS w N y s1 s2 q g W:=⟨h.bel,by rw[e6];exact h.nw,by rw[e7];exact h.rs⟩
theorem FroS.new (h:FroS w N y s1 s2 q f W) (e7:f 7=false) (g7:g 7=f 7):FroS w N y s1 s2 (W.heap.size,q.2) g (W.alloc (.cells #[s1,s2] 22)):=
 have hb:zB W.heap.size W (W.alloc (.cells #[s1,s2] 22)):=(zM _ W).alloc (zN _) _
 ⟨h.bel.trans (hb.mono h.bel.size),λ_=>zG _ _,λk=>by rw[g7,e7] at k;cases k⟩
theorem FroS.res (h:FroS w N y s1 s2 q f W) (hb:zB W.heap.size W W') {u:Value} (hu:W'.ownsRow w.heap.size 27 2 u N (z3k y)) (e6:g 6=f 6):FroS w N y s1 s2 (q.1,u) g W':=
 ⟨h.bel.trans (hb.mono h.bel.size),by rw[e6];exact λk=>(hb.block _ (Array.getElem?_eq_some_iff.1 (h.nw k)).1).trans (h.nw k),λ_=>hu⟩
end
def froV (b off N c F:Nat) (q:Nat×Value) (k:Nat):Value:=
 ([.slice (some ⟨b,off,none⟩) N c,.int .i64 (F:Int),.slice (some ⟨b,off+F*2,none⟩) (N-F) (c-F),.slice (some ⟨b,off,none⟩) N c,.int .i64 (F:Int),.slice (some ⟨b,off,none⟩) F c,.slice (some ⟨q.1,0,none⟩) 2 2,q.2,q.2]:List Value).getD k undef
theorem z7d (b off c N i:Nat) (x:List Pt) (h0:0<N) (hN:N<=4096) (hNc:N<=c) (hi:i<256) (w:zA)
 (CC:Hid (∀(F b':Nat),F<N->∀W:zA,zB w.heap.size w W->W.heap[b']? =some (.cells #[.slice (some ⟨b,off+F*2,none⟩) (N-F) (c-F),.slice (some ⟨b,off,none⟩) F c] 22 (0,0))->
   zC zF 32 #[.slice (some ⟨b',0,none⟩) 2 2] W λe w'=>∃v,e=.returned v/\w'.ownsRow w.heap.size 27 2 v N (z3k (x.drop F++x.take F))/\zB W.heap.size W w')):
 zC zF 10 #[.slice (some ⟨b,off,none⟩) N c,.int .u8 (i:Int)] w λe w'=>∃v,e=.returned v/\w'.ownsRow w.heap.size 27 2 v N (z3k (x.drop (i%N)++x.take (i%N)))/\zB w.heap.size w w':=by
 have hF:i%N<N:=Nat.mod_lt _ h0
 have hcv:wrap64 (i:Int)=(i:Int):=by unfold wrap64;omega
 have hcv2:IntKind.i64.wrap (i:Int)=(i:Int):=zI _ ⟨by omega,by omega⟩
 have ht:(i:Int).tmod (N:Int)=((i%N:Nat):Int):=by rw[Int.tmod_eq_emod_of_nonneg (by omega)];rfl
 have hn0:¬N=0:=by omega
 generalize i%N=F at*
 have hf1:(F:Int)<=(N:Int):=by omega
 have hf2:(F:Int)<=(c:Int):=by omega
 go_enter Tryz.func10,Tryz.ntmps10
 go_wp2_with fail
 try simp only[hcv,hcv2,ht]
 refine zc4 (froV b off N c F) (FroS w N (x.drop F++x.take F) (.slice (some ⟨b,off+F*2,none⟩) (N-F) (c-F)) (.slice (some ⟨b,off,none⟩) F c)) (by kernel_rfl) (by kernel_rfl) (0,undef) ⟨(zM _ _).drew,λk=>(by cases k),λk=>(by cases k)⟩ λq=>?_
 refine zag (.slice (some ⟨b,off,none⟩) N c) (by rfl) (by rfl) (λf W' h=>h.congr rfl rfl) (λf W' hf h=>by go_simp) ?_
 try simp only[zzQ]
 refine zag (.int .i64 (F:Int)) (by rfl) (by rfl) (λf W' h=>h.congr rfl rfl) (λf W' hf h=>by go_simp) ?_
 try simp only[zzQ]
 refine zag (.slice (some ⟨b,off+F*2,none⟩) (N-F) (c-F)) (by rfl) (by rfl) (λf W' h=>h.congr rfl rfl) (λf W' hf h=>by go_simp;try(intro e;omega)) ?_
 try simp only[zzQ]
 refine zag (.slice (some ⟨b,off,none⟩) N c) (by rfl) (by rfl) (λf W' h=>h.congr rfl rfl) (λf W' hf h=>by go_simp) ?_
 try simp only[zzQ]
 refine zag (.int .i64 (F:Int)) (by rfl) (by rfl) (λf W' h=>h.congr rfl rfl) (λf W' hf h=>by go_simp) ?_
 try simp only[zzQ]
 refine zag (.slice (some ⟨b,off,none⟩) F c) (by rfl) (by rfl) (λf W' h=>h.congr rfl rfl) (λf W' hf h=>by go_simp) ?_
 try simp only[zzQ]
 refine zdc (.slice (some ⟨q.1,0,none⟩) 2 2) (by rfl) (by rfl) (λf W' hf h C' hC'=>by
  have h7:=hf.no (j:=7) hf.self (by kernel_rfl)
  have hj:∀j,f j=true->froV b off N c F (W'.heap.size,q.2) j=froV b off N c F q j:=by
   intro j hj
   match j,hj with
   |0,_|1,_|2,_|3,_|4,_|5,_=>rfl
   |6,hj=>rw[hf.self] at hj;cases hj
   |7,_|8,_=>rfl
   |_+9,_=>rfl
  have:=hC' _ _ hj (h.new h7 rfl)
  go_simp
  exact this) ?_
 try simp only[zzQ]
 refine zdc q.2 (by rfl) (by rfl) (λf W' hf h C' hC'=>by
  have h6:=hf.done 6 (by kernel_rfl)
  have h8:=hf.no (j:=8) hf.self (by kernel_rfl)
  have hc:=CC.out F q.1 hF W' h.bel (h.nw h6)
  have h7:=hf.self
  go_simp
  refine hc.mono ?_
  rintro e w' ⟨u,rfl,hown,hb⟩
  have hj:∀j,f j=true->froV b off N c F (q.1,u) j=froV b off N c F q j:=by
   intro j hj
   match j,hj with
   |0,_|1,_|2,_|3,_|4,_|5,_|6,_=>rfl
   |7,hj=>rw[h7] at hj;cases hj
   |8,hj=>rw[h8] at hj;cases hj
   |_+9,_=>rfl
  exact⟨_,rfl,hC' (q.1,u) _ hj (h.res hb hown rfl)⟩) ?_
 try simp only[zzQ]
 refine zag q.2 (by rfl) (by rfl) (λf W' h=>h.congr rfl rfl) (λf W' hf h=>by go_simp) ?_
 try simp only[zzQ]
 refine ze1 λf W8 hf h=>?_
 have HV:=hid (⟨h.rs (hf 7 (by decide)),h.bel⟩:_/\_)
 clear hf h
 go_wp2_with fail
 go_ret
 exact⟨_,rfl,HV.out.1,HV.out.2⟩
theorem z8g (p:Option Addr) (cap:Nat) (l:List Pt) (h0:0<l.length) (hlen:l.length<=4096) (hcap:l.length<=cap) (i:Nat) (hi:i<256) (w:zA) (hr:RowPts p l w):
 zC zF 10 #[.slice p l.length cap,.int .u8 (i:Int)] w λe w'=>∃v,e=.returned v/\w'.ownsRow w.heap.size 27 2 v l.length (z3k (l.drop (i%l.length)++l.take (i%l.length)))/\zB w.heap.size w w':=by
 obtain⟨b,off,rfl,hc⟩:=z4j hr h0
 refine z7d b off cap l.length i l h0 hlen hcap hi w (hid λF b' hF W hb ha=>?_)
 refine(z5h b' b off cap F l.length l hlen hF W (hid λW'=>z50 _ (by omega) (by omega) W') rfl (hid λW' hb' j u hu=>?_) (hid ha)).mono ?_
 ·have:=z5c (hc W' (hb.trans (hb'.mono hb.size))) j u hu
  have ea:(⟨b,off,none⟩:Addr).add j=⟨b,off+j,none⟩:=by unfold Addr.add;split<;>simp_all
  rwa [ea] at this
 ·rintro e w' ⟨v,rfl,h1,h2⟩
  exact⟨v,rfl,z5a h1 hb.size,h2⟩
theorem z61 (B g c n bv:Nat) (y:List Pt) (p:Pt) (_:y.length=n) (h0:0<n) (hn2:n<=4096) (_:n<=c) (w:zA)
 (HO:Hid (w.ownsRow B 27 2 (.slice (some ⟨g,0,none⟩) n c) n (z3k y))) (HV:Hid (∀j u,[St (numS p.x),St (numS p.y)][j]? =some u->w.cell? ((⟨bv,0,none⟩:Addr).add j)=some u)) (HB:Hid (B<=w.heap.size)):
 zC zF 8 #[.slice (some ⟨g,0,none⟩) n c,.int .i64 (n:Int),.slice (some ⟨bv,0,none⟩) 1 1] w λe w'=>∃v,e=.returned v/\w'.ownsRow B 27 2 v (n+1) (z3k (y++[p]))/\zB B w w':=by
 obtain⟨i0,hi,hz0,hz1,hz2⟩:=info_parts z4u
 have HD:=hid (⟨hi,hz0,hz1,hz2⟩:_/\_/\_/\_)
 have HN:=hid hn2
 clear hi hz0 hz1 hz2
 go_enter Tryz.func8,Tryz.ntmps8
 go_wp2_with (at_builtin;refine wpList_append_own_at _ rfl _ _ 22 rfl B 27 i0 (.agg #[St [],St []]) 2 32 Tryz.underlying22 HD.out.1 HD.out.2.1 HD.out.2.2.1 HD.out.2.2.2 rfl (by decide) (.slice (some ⟨g,0,none⟩) n c) n (z3k y) rfl HO.out ⟨bv,0,none⟩ 1 1 [St (numS p.x),St (numS p.y)] rfl rfl HV.out (z4n _ _) (by have:=HN.out;unfold maxLen;omega) (by have:=HN.out;omega) HB.out ?_)
 all_goals
  intro v' w2 hown' hgrow hnil hat
  obtain⟨q',c2,rfl⟩:=z3z hown'
  have HB2:=hid ((zM B w).grown hgrow HB.out (λg e=>(HO.out.lt g e).1))
  have HO2:=hid (show w2.ownsRow B 27 2 (.slice q' (n+1) c2) (n+1) (z3k (y++[p])) by rw[z39];exact hown')
  clear hown' hgrow hnil hat
  go_wp2_with fail
  go_ret
  exact⟨_,rfl,HO2.out,HB2.out⟩
end
section
open Go.RowKit Go.Shelf Lib Str Limb Geo
theorem z6c {P:Program} (w:zA) (dT sT ty elem:TypeId) (g o dLen dCap:Nat) (a:Addr) (sLen sCap:Nat) (cur:Array Value) (t:TypeId) (cs:List Value)
 (hu:P.underlying dT=some (.slice elem)) (hs:(P.info? elem).map (·.size)=some 2)
 (hg:w.heap[g]? =some (.cells cur t (0,0))) (hn:cs.length=Nat.min sLen dLen*2)
 (hsrc:∀j v,cs[j]? =some v->w.cell? (a.add j)=some v) (hfit:o+cs.length<=cur.size) (h1:∀v∈cs,v.oneCell'=true):
 (Builtin.copy_ #[dT,sT] ty #[.slice (some ⟨g,o,none⟩) dLen dCap,.slice (some a) sLen sCap]).run P w=
   .ok (goInt (Nat.min sLen dLen)) (w.setRow g (cur.toList.take o++cs++cur.toList.drop (o+cs.length)).toArray):=by
 have hl:=run_loadCells_list (P:=P) w a cs hsrc
 have hst:=run_storeCells_at P g o t cs 0 cur w hg (by simpa using hfit) h1
 cases hq:P.info? elem with
 |none=>simp[hq] at hs
 |some i=>
  have hi:i.size=2:=by simpa [hq] using hs
  simp[Builtin.copy_,run_underlying hu,Builtin.lenOf,Builtin.firstCells,sizeOf,typeInfo,hq,hi,<-hn,hl,hst]
def putL (l:List Value) (o:Nat) (xs:List Value):List Value:=l.take o++xs++l.drop (o+xs.length)
theorem z5g (s t xs:List Value) {o:Nat} (h:s.length=o):putL (s++t) o xs=s++xs++t.drop xs.length:=by
 subst h
 unfold putL
 rw[List.take_left,List.drop_append,Nat.add_sub_cancel_left,List.drop_eq_nil_of_le (by omega),List.nil_append]
theorem z4x {l xs:List Value} {o:Nat} (h:o+xs.length<=l.length):(putL l o xs).length=l.length:=by
 unfold putL
 simp only[zU,zX,zW]
 omega
theorem z7e {l f:List Value} {a n:Nat} (x y:Value) (hl:l.take n=f) (hf:f.length=n) (ha:a<=n) (h2:n+2<=l.length):
 (putL (putL l (a+2) (f.drop a)) a [x,y]).take (n+2)=f.take a++[x,y]++f.drop a:=by
 obtain⟨A,hA⟩:∃A,A=f.take a:=⟨_,rfl⟩
 obtain⟨B,hB⟩:∃B,B=f.drop a:=⟨_,rfl⟩
 obtain⟨R,hR⟩:∃R,R=l.drop n:=⟨_,rfl⟩
 have el:l=A++(B++R):=by rw[hA,hB,hR,<-yL,yN,<-hl,yN]
 have lA:A.length=a:=by rw[hA,zX];omega
 have lB:B.length=n-a:=by rw[hB,zW];omega
 have lR:2<=R.length:=by rw[hR,zW];omega
 rw[<-hA,<-hB,el]
 have e1:A++(B++R)=(A++(B++R).take 2)++(B++R).drop 2:=by rw[yL,yN]
 have l2:((B++R).take 2).length=2:=by rw[zX,zU];omega
 rw[e1,z5g _ _ _ (by rw[zU,lA,l2])]
 generalize (B++R).take 2=C at l2
 generalize ((B++R).drop 2).drop B.length=D
 rw[yL,yL,z5g _ _ _ lA]
 match C,l2 with
 |[c,d],_=>
  show(A++[x,y]++(B++D)).take (n+2)=_
  rw[<-yL]
  exact List.take_left' (by simp;omega)
theorem z7f {l f:List Value} {a n:Nat} (x y:Value) (hf:f.length=n) (ha:a<=n) (hl:l.take a=f.take a) (_:n+2<=l.length):
 (putL (putL l a [x,y]) (a+2) (f.drop a)).take (n+2)=f.take a++[x,y]++f.drop a:=by
 obtain⟨A,hA⟩:∃A,A=f.take a:=⟨_,rfl⟩
 obtain⟨B,hB⟩:∃B,B=f.drop a:=⟨_,rfl⟩
 have lA:A.length=a:=by rw[hA,zX];omega
 have lB:B.length=n-a:=by rw[hB,zW];omega
 rw[<-hA,<-hB]
 have el:l=A++l.drop a:=by rw[hA,<-hl,yN]
 rw[el,z5g _ _ _ lA,z5g _ _ _ (by simp[lA])]
 exact List.take_left' (by simp;omega)
variable {P:Program}
theorem z4d (w:zA) (dT sT ty elem:TypeId) (g o dLen dCap:Nat) (a:Addr) (sLen sCap:Nat) (l:List Value) (t:TypeId) (cs:List Value)
 (hu:P.underlying dT=some (.slice elem)) (hs:(P.info? elem).map (·.size)=some 2)
 (hg:w.heap[g]? =some (.cells l.toArray t (0,0))) (hn:cs.length=Nat.min sLen dLen*2)
 (hsrc:∀j v,cs[j]? =some v->w.cell? (a.add j)=some v) (hfit:o+cs.length<=l.length) (h1:∀v∈cs,v.oneCell'=true):
 (Builtin.copy_ #[dT,sT] ty #[.slice (some ⟨g,o,none⟩) dLen dCap,.slice (some a) sLen sCap]).run P w=
   .ok (goInt (Nat.min sLen dLen)) (w.setRow g (putL l o cs).toArray):=by
 have:=z6c (P:=P) w dT sT ty elem g o dLen dCap a sLen sCap l.toArray t cs hu hs hg hn hsrc (by simpa using hfit) h1
 simpa [putL] using this
theorem z4o (y:List Pt) (i:Nat) (p:Pt):z3k (y.take i++p::y.drop i)=(z3k y).take (i*2)++[St (numS p.x),St (numS p.y)]++(z3k y).drop (i*2):=by
 rw[z39,z4w,yL]
 show _++(St (numS p.x)::St (numS p.y)::z3k (y.drop i))=_
 rw[z4v]
 rfl
end
section
open Go.RowKit Go.Shelf Lib Str Limb Geo
attribute [local go_sem] Oper.semAt_some
theorem z4p {B g:Nat} {w0 w:zA} (hb:zB B w0 w) (hBg:B<=g) (cs:Array Value):zB B w0 (w.setRow g cs):=below_setRow hb hBg cs
theorem wadd (g o j:Nat):(⟨g,o,none⟩:Addr).add j=⟨g,o+j,none⟩:=by unfold Addr.add;split<;>simp_all
theorem z7z {W:zA} {g:Nat} {l:List Value} {t:TypeId} (h:W.heap[g]? =some (.cells l.toArray t (0,0))) (j:Nat):W.cell? ⟨g,j,none⟩=l[j]? :=by
 rw[zJ h];simp
section
variable {P:Program}
theorem z71 {o:Oper} {a:Act} {w:zA} {K:Act->zA->Prop} {Q:Exit->Act->zA->Prop} (d s:Operand) (t1 t2:TypeId)
 (ho:o.op=.call {callee:=.builtin .copy,args:= #[d,s],argTypes:= #[t1,t2]}) (v u:Value) (hd:a.eval d=v) (hs:a.eval s=u) {v':Value} {w':zA}
 (hr:(Builtin.copy_ #[t1,t2] o.type #[v,u]).run P w=.ok v' w') (h:K (a.put o.dst v') w'):o.wp P a w K Q:=by
 unfold Oper.wp execOp
 simp only[ho,resolve,invoke,builtin,Sem.run_bind,Sem.run_pure,Result.andThen_ok,List.map_toArray,List.map_cons,List.map_nil,hd,hs,hr]
 exact h
theorem z6o {ops:Array Oper} {o:Oper} {a:Act} {w:zA} {K:Act->zA->Prop} {Q:Exit->Act->zA->Prop} {E:Prop}
 (hg:o.guard=none) (d s:Operand) (t1 t2:TypeId) (ho:o.op=Op.call {callee:=Callee.builtin Builtin.copy,args:= #[d,s],argTypes:= #[t1,t2]})
 (v u:Value) (hd:a.eval d=v) (hs:a.eval s=u) {v':Value} {w':zA} (hr:(Builtin.copy_ #[t1,t2] o.type #[v,u]).run P w=.ok v' w') (hK:K (a.put o.dst v') w'):
 if Region.wanted o (yielded ops a.tmps)=true then Oper.wp P o a w K Q else E:=by
 rw[if_pos (show Region.wanted o (yielded ops a.tmps)=true by simp[Region.wanted,hg])]
 exact z71 d s t1 t2 ho v u hd hs hr hK
end
theorem z6h (_ g c n i bv G:Nat) (_:List Value) (_:Pt) (hi:i<n) (hn2:n<=4096) (hc:n<=c) (hcn:c<n+1) (hG:n+1<=G) (hG2:G<=maxLen) (w:zA) (_:List Value) (h:Nat) (W1 W2 W3:zA)
 (HR:Hid (∀ty,(Builtin.append_ #[22,3] ty #[.slice (some ⟨g,0,none⟩) i c,.int .i64 ((n+1-i:Nat):Int)]).run zF w=.ok (.slice (some ⟨h,0,none⟩) (n+1) G) W1))
 (HC1:Hid (∀ty,(Builtin.copy_ #[22,22] ty #[.slice (some ⟨h,i*2,none⟩) (n+1-i) (G-i),.slice (some ⟨bv,0,none⟩) 1 1]).run zF W1=.ok (goInt 1) W2))
 (HC2:Hid (∀ty,(Builtin.copy_ #[22,22] ty #[.slice (some ⟨h,(i+1)*2,none⟩) (n+1-(i+1)) (G-(i+1)),.slice (some ⟨g,i*2,none⟩) (n-i) (c-i)]).run zF W2.drew=.ok (goInt ((n-i:Nat):Int)) W3)):
 zC zF 8 #[.slice (some ⟨g,0,none⟩) n c,.int .i64 (i:Int),.slice (some ⟨bv,0,none⟩) 1 1] w λe w'=>e=.returned (.slice (some ⟨h,0,none⟩) (n+1) G)/\w'=W3:=by
 have hw1:IntKind.i64.wrap ((n:Int)+1)=(n:Int)+1:=zI _ ⟨by omega,by omega⟩
 have hw2:IntKind.i64.wrap ((n:Int)+1-(i:Int))=((n+1-i:Nat):Int):=by rw[zI _ ⟨by omega,by omega⟩];omega
 have hw3:IntKind.i64.wrap ((i:Int)+1)=(i:Int)+1:=zI _ ⟨by omega,by omega⟩
 have hz2:¬((i:Int)=(n:Int)):=by omega
 have hz3:(c:Int)<(n:Int)+1:=by omega
 have hb1:(0:Int)<=(i:Int)+1:=by omega
 have hin:i<=n:=by omega
 have htn:((i:Int)+1).toNat=i+1:=by omega
 have hGi:¬(G=i):=by omega
 have hGim:¬(G=i+1):=by omega
 have hci:¬(c=i):=by omega
 have hb3:(i:Int)<=(n:Int):=by omega
 have hG63:G<=9223372036854775807:=by unfold maxLen at hG2;omega
 have HG:=hid (⟨hG,hG2⟩:_/\_)
 clear hG2
 have mixed:Tryz.prog.follows .mixedOrders=true:=by kernel_rfl
 go_enter Tryz.func8,Tryz.ntmps8
 go_wp2_with (first
  |(at_builtin;refine Lib.wpList_append_run _ rfl _ _ _ _ rfl _ _ rfl rfl _ _ (HR.out _) ?_)
  |(simp only[HC1.out,Result.andThen_ok]))
 go_region_law_o (refine z6o rfl _ _ 22 22 rfl (.slice (some ⟨h,(i+1)*2,none⟩) (n+1-(i+1)) (G-(i+1))) (.slice (some ⟨g,i*2,none⟩) (n-i) (c-i)) (by simp[Act.eval,Act.put]) (by simp[Act.eval,Act.put]) (HC2.out _) ?_)
 go_wp2
 go_ret
 exact⟨rfl,rfl⟩
end
section
open Go.RowKit Go.Shelf Lib Str Limb Geo
theorem z54 (n:Nat):(Builtin.zeroCells (Value.agg #[St [],St []]).cells n).size=n*2:=by rw[size_zeroCells];rfl
theorem z32 {y:List Pt} {n i:Nat} (hn:y.length=n) (hi:i<=n):((z3k y).take (i*2)).length=i*2:=by rw[zX,z3v];omega
theorem z3u {y:List Pt} {n i:Nat} (hn:y.length=n) (hi:i<=n):((z3k y).drop (i*2)).length=(n-i)*2:=by rw[zW,z3v];omega
theorem z62 (B g c n i bv:Nat) (y:List Pt) (p:Pt) (hn:y.length=n) (hi:i<n) (hn2:n<=4096) (hc:n<=c) (hcn:c<n+1) (w:zA)
 (hcs:∀j u,(z3k y)[j]? =some u->w.cell? ⟨g,j,none⟩=some u) (hg:g<w.heap.size) (hV:w.heap[bv]? =some (.cells #[St (numS p.x),St (numS p.y)] 27 (0,0))) (hB:B<=w.heap.size):
 zC zF 8 #[.slice (some ⟨g,0,none⟩) n c,.int .i64 (i:Int),.slice (some ⟨bv,0,none⟩) 1 1] w λe w'=>∃v,e=.returned v/\w'.ownsRow B 27 2 v (n+1) (z3k (y.take i++p::y.drop i))/\zB B w w':=by
 obtain⟨i0,hi0,hz0,hz1,hz2⟩:=info_parts z4u
 have hsz:(Tryz.prog.info? 27).map (·.size)=some 2:=by rw[hi0];simp[hz1]
 have hold:(Builtin.firstCells i0.size i (.slice (some ⟨g,0,none⟩) i c)).run zF w.drew=.ok ((z3k y).take (i*2)).toArray w.drew:=by
  rw[hz1]
  exact run_firstCells_some w.drew 2 i ⟨g,0,none⟩ i c ((z3k y).take (i*2)) (z32 hn (by omega)) (λj v hj=>by
   rw[wadd,Nat.zero_add]
   rw[List.getElem?_take] at hj
   split at hj
   ·exact hcs j v hj
   ·cases hj)
 have hik:i+(n+1-i)=n+1:=by omega
 have hbv:bv<w.heap.size:=(Array.getElem?_eq_some_iff.1 hV).1
 have hrz:=λty=>Lib.run_append_grow_zeros w 22 3 ty 27 i0 (.agg #[St [],St []]) .i64 .i64 Tryz.underlying22 Tryz.underlying3 hi0 hz0 (some ⟨g,0,none⟩) i c ((z3k y).take (i*2)) hold (n+1-i) (by omega) (by omega) (by omega) (by omega) (by rw[hz2];omega) (by rw[hz2,hik];exact growslice_fits hcn (by omega))
 simp only[hik] at hrz
 have hGn:n+1<=grownCap w (n+1) c 27:=grownCap_ge w _ _ _
 have hGm:grownCap w (n+1) c 27<=maxLen:=grownCap_le_maxLen w (n+1) c 27 (by unfold maxLen;omega)
 generalize grownCap w (n+1) c 27=G at*
 obtain⟨ROW,hROW⟩:∃ROW:List Value,ROW.toArray=((z3k y).take (i*2)).toArray++Builtin.zeroCells (Value.agg #[St [],St []]).cells (n+1-i)++Builtin.zeroCells (Value.agg #[St [],St []]).cells (G-(n+1)):=⟨_,Array.toArray_toList⟩
 rw[<-hROW] at hrz
 have hRl:ROW.length=G*2:=by
  have:=congrArg Array.size hROW
  rw[Array.size_append,Array.size_append,z54,z54,zZ,zZ,z32 hn (by omega)] at this
  omega
 have hRt:ROW.take (i*2)=(z3k y).take (i*2):=by
  have:=congrArg Array.toList hROW
  simp only[Array.toList_append] at this
  rw[this,yL]
  exact List.take_left' (z32 hn (by omega))
 obtain⟨W1,hW1⟩:∃W1,W1=w.drew.alloc (.cells ROW.toArray 27):=⟨_,rfl⟩
 have b1:zB B w W1:=by rw[hW1];exact((zM B w).drew).alloc hB _
 have g1:W1.heap[w.heap.size]? =some (.cells ROW.toArray 27 (0,0)):=by rw[hW1];exact zG w.drew _
 have o1:∀k,k<w.heap.size->W1.heap[k]? =w.heap[k]? :=λk hk=>by
  have:zB w.heap.size w W1:=by rw[hW1];exact((zM _ w).drew).alloc (zN _) _
  exact this.block k hk
 rw[<-hW1] at hrz
 clear hW1
 obtain⟨W2,hW2⟩:∃W2,W2=W1.setRow w.heap.size (putL ROW (i*2) [St (numS p.x),St (numS p.y)]).toArray:=⟨_,rfl⟩
 have hc1:=λty=>z4d (P:=zF) W1 22 22 ty 27 w.heap.size (i*2) (n+1-i) (G-i) ⟨bv,0,none⟩ 1 1 ROW 27 [St (numS p.x),St (numS p.y)] Tryz.underlying22 hsz g1
  (by rw[show Nat.min 1 (n+1-i)=1 from Nat.min_eq_left (by omega)];rfl)
  (λj v hj=>by
    rw[wadd,Nat.zero_add,zJ ((o1 bv hbv).trans hV)]
    match j,hj with
    |0,hj=>exact hj
    |1,hj=>exact hj
    |_+2,hj=>cases hj)
  (by rw[hRl];show i*2+2<=_;omega) (z4n _ _)
 simp only[show Nat.min 1 (n+1-i)=1 from Nat.min_eq_left (by omega)] at hc1
 rw[<-hW2] at hc1
 have b2:zB B w W2:=by rw[hW2];exact z4p b1 hB _
 have g2:W2.drew.heap[w.heap.size]? =some (.cells (putL ROW (i*2) [St (numS p.x),St (numS p.y)]).toArray 27 (0,0)):=by rw[hW2];exact setRow_heap _ _ _ _ _ _ g1
 have o2:∀k,k<w.heap.size->W2.drew.heap[k]? =w.heap[k]? :=λk hk=>by
  rw[hW2];exact(setRow_other _ _ _ _ (by omega)).trans (o1 k hk)
 have hpl:(putL ROW (i*2) [St (numS p.x),St (numS p.y)]).length=G*2:=by rw[z4x (by show i*2+2<=_;omega)];exact hRl
 have b2':zB B w W2.drew:=b2.drew
 clear hW2
 obtain⟨W3,hW3⟩:∃W3,W3=W2.drew.setRow w.heap.size (putL (putL ROW (i*2) [St (numS p.x),St (numS p.y)]) ((i+1)*2) ((z3k y).drop (i*2))).toArray:=⟨_,rfl⟩
 have hc2:=λty=>z4d (P:=zF) W2.drew 22 22 ty 27 w.heap.size ((i+1)*2) (n+1-(i+1)) (G-(i+1)) ⟨g,i*2,none⟩ (n-i) (c-i) (putL ROW (i*2) [St (numS p.x),St (numS p.y)]) 27 ((z3k y).drop (i*2)) Tryz.underlying22 hsz g2
  (by rw[show Nat.min (n-i) (n+1-(i+1))=n-i from Nat.min_eq_left (by omega)];exact z3u hn (by omega))
  (λj v hj=>by
    rw[wadd]
    rw[List.getElem?_drop] at hj
    have:=hcs _ v hj
    simpa [World.cell?,o2 g hg] using this)
  (by rw[hpl,z3u hn (by omega)];omega) (λv hv=>z4a _ v (List.mem_of_mem_drop hv))
 simp only[show Nat.min (n-i) (n+1-(i+1))=n-i from Nat.min_eq_left (by omega)] at hc2
 rw[<-hW3] at hc2
 refine(z6h B g c n i bv G (z3k y) p hi hn2 hc hcn hGn hGm w [] w.heap.size W1 W2 W3 (hid hrz) (hid hc1) (hid hc2)).mono ?_
 rintro e w' ⟨rfl,rfl⟩
 refine⟨_,rfl,⟨?_,.inr ⟨w.heap.size,G,_,rfl,hB,by rw[hW3];exact setRow_heap _ _ _ _ _ _ g2,hGn,hGm,?_,?_⟩⟩,by rw[hW3];exact z4p b2' hB _⟩
 ·rw[z4o];simp only[zU,z32 hn (show i<=n by omega),z3u hn (show i<=n by omega)];show i*2+2+_=_;omega
 ·rw[zZ,z4x (by rw[hpl,z3u hn (by omega)];omega)];exact hpl
 ·have:=z7f (n:=n*2) (a:=i*2) (l:=ROW) (St (numS p.x)) (St (numS p.y)) (f:=z3k y) (by rw[z3v,hn]) (by omega) hRt (by omega)
  rw[z4o,<-this,show(i+1)*2=i*2+2 by omega,show(n+1)*2=n*2+2 by omega]
end
section
open Go.RowKit Go.Shelf Lib Str Limb Geo
attribute [local go_sem] Oper.semAt_some
theorem z6d (g c n i bv:Nat) (hi:i<n) (hn2:n<=4096) (hcn:n+1<=c) (hcm:c<=maxLen) (w W2 W3:zA)
 (HOV:Hid (∀lb cb,(callFunc 30 #[.slice (some ⟨bv,0,none⟩) 1 1,.slice (some ⟨g,(i+1)*2,none⟩) lb cb]).run zF w=.ok (.value (.bool false)) w))
 (HC1:Hid (∀ty,(Builtin.copy_ #[22,22] ty #[.slice (some ⟨g,(i+1)*2,none⟩) (n+1-(i+1)) (c-(i+1)),.slice (some ⟨g,i*2,none⟩) (n+1-i) (c-i)]).run zF w.drew=.ok (goInt ((n-i:Nat):Int)) W2))
 (HC2:Hid (∀ty,(Builtin.copy_ #[22,22] ty #[.slice (some ⟨g,i*2,none⟩) (n+1-i) (c-i),.slice (some ⟨bv,0,none⟩) 1 1]).run zF W2=.ok (goInt 1) W3)):
 zC zF 8 #[.slice (some ⟨g,0,none⟩) n c,.int .i64 (i:Int),.slice (some ⟨bv,0,none⟩) 1 1] w λe w'=>e=.returned (.slice (some ⟨g,0,none⟩) (n+1) c)/\w'=W3:=by
 have hw1:IntKind.i64.wrap ((n:Int)+1)=(n:Int)+1:=zI _ ⟨by omega,by omega⟩
 have hw3:IntKind.i64.wrap ((i:Int)+1)=(i:Int)+1:=zI _ ⟨by omega,by omega⟩
 have hz2:¬((i:Int)=(n:Int)):=by omega
 have hz3:¬(c:Int)<(n:Int)+1:=by omega
 have hb1:(0:Int)<=(i:Int)+1:=by omega
 have hb0:(0:Int)<=(n:Int)+1:=by omega
 have hin:i<=n:=by omega
 have htn:((i:Int)+1).toNat=i+1:=by omega
 have htn2:((n:Int)+1).toNat=n+1:=by omega
 have hci:¬(c=i):=by omega
 have hci1:¬(c=i+1):=by omega
 have hb3:(i:Int)<=(n:Int):=by omega
 have hb4:(i:Int)<=(n:Int)+1:=by omega
 have hb5:(n:Int)+1<=(c:Int):=by omega
 have hG63:c<=9223372036854775807:=by unfold maxLen at hcm;omega
 clear hcm
 have mixed:Tryz.prog.follows .mixedOrders=true:=by kernel_rfl
 go_enter Tryz.func8,Tryz.ntmps8
 go_wp2_with (simp only[HOV.out])
 go_region_law_o (refine z6o rfl _ _ 22 22 rfl (.slice (some ⟨g,(i+1)*2,none⟩) (n+1-(i+1)) (c-(i+1))) (.slice (some ⟨g,i*2,none⟩) (n+1-i) (c-i)) (by simp[Act.eval,Act.put]) (by simp[Act.eval,Act.put]) (HC1.out _) ?_)
 go_wp2_with (simp only[HC2.out,Result.andThen_ok])
 go_ret
 exact⟨rfl,rfl⟩
theorem z7g (B g c n i bv:Nat) (y:List Pt) (p:Pt) (hn:y.length=n) (hi:i<n) (hn2:n<=4096) (hcn:n+1<=c) (w:zA) (hne:bv≠g)
 (HO:w.ownsRow B 27 2 (.slice (some ⟨g,0,none⟩) n c) n (z3k y)) (hV:w.heap[bv]? =some (.cells #[St (numS p.x),St (numS p.y)] 27 (0,0))) (_:B<=w.heap.size):
 zC zF 8 #[.slice (some ⟨g,0,none⟩) n c,.int .i64 (i:Int),.slice (some ⟨bv,0,none⟩) 1 1] w λe w'=>∃v,e=.returned v/\w'.ownsRow B 27 2 v (n+1) (z3k (y.take i++p::y.drop i))/\zB B w w':=by
 obtain⟨i0,hi0,hz0,hz1,hz2⟩:=info_parts z4u
 have hsz:(Tryz.prog.info? 27).map (·.size)=some 2:=by rw[hi0];simp[hz1]
 obtain⟨g',cap,cur,e,hBg,hg,_,hcm,hcs,htk⟩:∃g' cap cur,Value.slice (some ⟨g,0,none⟩) n c=.slice (some ⟨g',0,none⟩) n cap/\B<=g'/\w.heap[g']? =some (.cells cur 27 (0,0))/\n<=cap/\cap<=maxLen/\cur.size=cap*2/\cur.toList.take (n*2)=z3k y:=by
  rcases HO.2 with⟨e,_⟩|h
  ·cases e
  ·exact h
 cases e
 obtain⟨L,rfl⟩:∃L:List Value,cur=L.toArray:=⟨cur.toList,by simp⟩
 rw[zZ] at hcs
 simp only at htk
 have hLt:L.take (n*2)=z3k y:=by simpa using htk
 have hLj:∀j u,(z3k y)[j]? =some u->L[j]? =some u:=λj u hj=>by
  rw[<-hLt,List.getElem?_take] at hj
  split at hj
  ·exact hj
  ·cases hj
 have hov:∀lb cb,(callFunc 30 #[.slice (some ⟨bv,0,none⟩) 1 1,.slice (some ⟨g,(i+1)*2,none⟩) lb cb]).run zF w=.ok (.value (.bool false)) w:=λlb cb=>by
  rw[run_callFunc_extern Tryz.func30 (by kernel_rfl) (by kernel_rfl) (by kernel_rfl) (e:=Extern.SlicesOverlaps.overlaps #[22,22] #[4]) (by kernel_rfl),
   Lib.run_overlaps_apart w 22 4 27 Tryz.underlying22 2 (λw=>by kernel_rfl) ⟨bv,0,none⟩ ⟨g,(i+1)*2,none⟩ 1 1 lb cb hne 27 27 2 L.length (by simp[World.shape?,hV]) (by simp[World.shape?,hg]) (by omega) (by simp[World.frozen?,hV]) (by simp[World.frozen?,hV])]
  rfl
 have gd:w.drew.heap[g]? =some (.cells L.toArray 27 (0,0)):=hg
 have bd:zB B w w.drew:=(zM B w).drew
 have vd:w.drew.heap[bv]? =some (.cells #[St (numS p.x),St (numS p.y)] 27 (0,0)):=hV
 obtain⟨W2,hW2⟩:∃W2,W2=w.drew.setRow g (putL L ((i+1)*2) ((z3k y).drop (i*2))).toArray:=⟨_,rfl⟩
 have hc1:=λty=>z4d (P:=zF) w.drew 22 22 ty 27 g ((i+1)*2) (n+1-(i+1)) (c-(i+1)) ⟨g,i*2,none⟩ (n+1-i) (c-i) L 27 ((z3k y).drop (i*2)) Tryz.underlying22 hsz gd
  (by rw[show Nat.min (n+1-i) (n+1-(i+1))=n-i from(Nat.min_eq_right (by omega)).trans (by omega)];exact z3u hn (by omega))
  (λj v hj=>by
    rw[wadd,z7z gd]
    rw[List.getElem?_drop] at hj
    exact hLj _ v hj)
  (by rw[z3u hn (by omega)];omega) (λv hv=>z4a _ v (List.mem_of_mem_drop hv))
 simp only[show Nat.min (n+1-i) (n+1-(i+1))=n-i from(Nat.min_eq_right (by omega)).trans (by omega)] at hc1
 rw[<-hW2] at hc1
 have b2:zB B w W2:=by rw[hW2];exact z4p bd hBg _
 have g2:W2.heap[g]? =some (.cells (putL L ((i+1)*2) ((z3k y).drop (i*2))).toArray 27 (0,0)):=by rw[hW2];exact setRow_heap _ _ _ _ _ _ gd
 have v2:W2.heap[bv]? =some (.cells #[St (numS p.x),St (numS p.y)] 27 (0,0)):=by rw[hW2];exact(setRow_other _ _ _ _ hne).trans vd
 have hpl:(putL L ((i+1)*2) ((z3k y).drop (i*2))).length=c*2:=by rw[z4x (by rw[z3u hn (by omega)];omega)];exact hcs
 clear hW2
 obtain⟨W3,hW3⟩:∃W3,W3=W2.setRow g (putL (putL L ((i+1)*2) ((z3k y).drop (i*2))) (i*2) [St (numS p.x),St (numS p.y)]).toArray:=⟨_,rfl⟩
 have hc2:=λty=>z4d (P:=zF) W2 22 22 ty 27 g (i*2) (n+1-i) (c-i) ⟨bv,0,none⟩ 1 1 (putL L ((i+1)*2) ((z3k y).drop (i*2))) 27 [St (numS p.x),St (numS p.y)] Tryz.underlying22 hsz g2
  (by rw[show Nat.min 1 (n+1-i)=1 from Nat.min_eq_left (by omega)];rfl)
  (λj v hj=>by
    rw[wadd,Nat.zero_add,zJ v2]
    match j,hj with
    |0,hj=>exact hj
    |1,hj=>exact hj
    |_+2,hj=>cases hj)
  (by rw[hpl];show i*2+2<=_;omega) (z4n _ _)
 simp only[show Nat.min 1 (n+1-i)=1 from Nat.min_eq_left (by omega)] at hc2
 rw[<-hW3] at hc2
 refine(z6d g c n i bv hi hn2 hcn hcm w W2 W3 (hid hov) (hid hc1) (hid hc2)).mono ?_
 rintro e w' ⟨rfl,rfl⟩
 refine⟨_,rfl,⟨?_,.inr ⟨g,c,_,rfl,hBg,by rw[hW3];exact setRow_heap _ _ _ _ _ _ g2,hcn,hcm,?_,?_⟩⟩,by rw[hW3];exact z4p b2 hBg _⟩
 ·rw[z4o];simp only[zU,z32 hn (show i<=n by omega),z3u hn (show i<=n by omega)];show i*2+2+_=_;omega
 ·rw[zZ,z4x (by rw[hpl];show i*2+2<=_;omega)];exact hpl
 ·have:=z7e (n:=n*2) (a:=i*2) (l:=L) (St (numS p.x)) (St (numS p.y)) (f:=z3k y) hLt (by rw[z3v,hn]) (by omega) (by omega)
  rw[z4o,<-this,show(i+1)*2=i*2+2 by omega,show(n+1)*2=n*2+2 by omega]
theorem z7h (B g c n i bv:Nat) (y:List Pt) (p:Pt) (hn:y.length=n) (h0:0<n) (hi:i<=n) (hn2:n<=4096) (hc:n<=c) (w:zA) (hne:bv≠g)
 (HO:w.ownsRow B 27 2 (.slice (some ⟨g,0,none⟩) n c) n (z3k y)) (hV:w.heap[bv]? =some (.cells #[St (numS p.x),St (numS p.y)] 27 (0,0))) (hB:B<=w.heap.size):
 zC zF 8 #[.slice (some ⟨g,0,none⟩) n c,.int .i64 (i:Int),.slice (some ⟨bv,0,none⟩) 1 1] w λe w'=>∃v,e=.returned v/\w'.ownsRow B 27 2 v (n+1) (z3k (y.take i++p::y.drop i))/\zB B w w':=by
 have hcell:∀j u,[St (numS p.x),St (numS p.y)][j]? =some u->w.cell? ((⟨bv,0,none⟩:Addr).add j)=some u:=λj u hj=>by
  rw[wadd,Nat.zero_add,zJ hV]
  match j,hj with
  |0,hj=>exact hj
  |1,hj=>exact hj
  |_+2,hj=>cases hj
 by_cases e:i=n
 ·subst e
  have:=z61 B g c i bv y p hn h0 hn2 hc w (hid HO) (hid hcell) (hid hB)
  rw[List.take_of_length_le (by omega),List.drop_of_length_le (by omega)]
  exact this
 ·by_cases e2:n+1<=c
  ·exact z7g B g c n i bv y p hn (by omega) hn2 e2 w hne HO hV hB
  ·obtain⟨g',c',e3,_,hcs⟩:=z30 HO h0
   cases e3
   exact z62 B g c n i bv y p hn (by omega) hn2 hc (by omega) w hcs (HO.lt g rfl).2 hV hB
end
section
open Go.RowKit Lib Str Limb
theorem zeb (p:Option Addr) (n cap:Nat) (l:List Nat) (w:zA) (h:Sl w (.slice p n cap) (l.map I)) (hl:l.length<=3000):
 zC zF 156 #[.slice p n cap] w λe w'=>e=.returned (.slice p (zat l).length cap)/\w=w':=by
 rcases h.cases with⟨h0,p',cap',e⟩|⟨h0,b,off,cap',e,hcap,hb,hc⟩
 ·have:l=[]:=by simpa using h0
  subst this
  simp only[Value.slice.injEq] at e
  obtain⟨rfl,rfl,rfl⟩:=e
  go_enter Tryz.func156,Tryz.ntmps156
  go_wp2
  go_loop [3] (λs=>s=.int .i64 0) (λ_=>0)
  case atStart=>rfl
  case round=>
   subst hrel
   go_wp2
   go_ret
   exact⟨rfl,rfl⟩
 ·rw[zV] at hcap e
  simp only[Value.slice.injEq] at e
  obtain⟨rfl,rfl,rfl⟩:=e
  have HC:=hid hc;clear hc h
  go_enter Tryz.func156,Tryz.ntmps156
  go_wp2
  go_loop [3] (λs=>∃k:Nat,k<=l.length/\s=.int .i64 k/\Hid (zat (l.take k)=zat l)) (λs=>(zL s).toNat)
  case atStart=>exact⟨l.length,zN _,rfl,by show zat (l.take l.length)=_;rw[List.take_length]⟩
  case round=>
   obtain⟨k,hk,rfl,ht⟩:=hrel
   rcases Nat.eq_zero_or_pos k with rfl|hp
   ·have e:(zat l).length=0:=by rw[<-ht.out];simp[zou]
    have E:=hid e;clear e
    go_wp2
    go_ret
    exact⟨by rw[E.out];rfl,rfl⟩
   ·obtain⟨m,rfl⟩:∃m,k=m+1:=⟨k-1,by omega⟩
    have hm:m<l.length:=by omega
    have hx:l[m]? =some l[m]:=by simp[hm]
    have hcell:=HC.out m (I l[m]) (by simp[hm])
    have hsn:zat (l.take (m+1))=zat (l.take m++[l[m]]):=by rw[List.take_succ_eq_append_getElem hm]
    by_cases hz:l[m]=0
    ·rw[hz] at hcell hsn
     have HS:Hid (zat (l.take m)=zat l):=by rw[<-ht.out,hsn,zew];rfl
     clear hsn hx hz ht
     go_wp2
     go_round
     case rel=>exact⟨m,by omega,by go_num,HS⟩
     case measure=>simp[zL]
    ·have HS:Hid ((zat l).length=m+1):=by
      rw[<-ht.out,hsn,zhs _ hz];show(l.take m++[l[m]]).length=m+1
      simp;omega
     have hz':(((l[m]:Nat):Int)==0)=false:=by rw[beq_eq_false_iff_ne];omega
     clear hsn hx ht
     go_wp2
     go_ret
     exact⟨by rw[HS.out];rfl,rfl⟩
theorem zgz (v:Value) (l:List Nat) (i:Nat) (w:zA) (h:Sl w v (l.map I)) (hl:l.length<=3000):
 zC zF 158 #[v,I i] w λe w'=>e=.returned (I (l[i]?.getD 0))/\w=w':=by
 by_cases hi:i<l.length
 ·rcases h.cases with⟨h0,p,cap,rfl⟩|⟨h0,b,off,cap,rfl,hcap,hb,hc⟩
  ·have:l=[]:=by simpa using h0
   subst this;simp at hi
  ·have hcell:=hc i (I (l[i]?.getD 0)) (by simp[hi])
   clear hc h
   rw[zV]
   generalize l[i]?.getD 0=x at*
   go_enter Tryz.func158,Tryz.ntmps158
   go_wp2
   go_ret
   exact⟨rfl,rfl⟩
 ·have:l[i]?.getD 0=0:=by rw[List.getElem?_eq_none (by omega)];rfl
  rw[this]
  obtain⟨p,cap,rfl,hcap,_⟩:=h
  rw[zV]
  go_enter Tryz.func158,Tryz.ntmps158
  go_wp2
  go_ret
  exact⟨rfl,rfl⟩
def B6:Nat:=1000000
theorem zh4 {w:zA} {base k:Nat} {p:Option Addr} {n c:Nat} {o:List Nat} (h:w.ownsRow base 3 1 (.slice p n c) k (o.map I)) (hk:o.length=k):
 w.ownsRow base 3 1 (.slice p (zat o).length c) (zat o).length ((zat o).map I):=zeq (v:=.slice p n c) h hk
theorem zg0 {w:zA} {base:Nat} {t:TypeId} {s:Nat} {v:Value} {n:Nat} {xs:List Value} (h:w.ownsRow base t s v n xs):∃p m c,v=.slice p m c:=by
 rcases h.2 with⟨e,_⟩|⟨g,cp,cur,e,_⟩<;>exact⟨_,_,_,e⟩
theorem z3h (c:Nat) (h:c<=1):(0+0+c)/B6=0:=by unfold B6;omega
theorem zxb (va vb:Value) (a b:List Nat) (w:zA) (ha:Sl w va (a.map I)) (hb:Sl w vb (b.map I)) (sa:zal B6 a) (sb:zal B6 b) (la:a.length<=1000) (lb:b.length<=1000):
 zC zF 265 #[va,vb] w (zht w (zaa B6 (valL B6 a+valL B6 b))):=by
 rw[<-zov (B:=B6) (by decide) sa sb]
 obtain⟨i0,hi,hz0,hz1,hz2⟩:=info_parts zdv
 have ha':=ha;have hb':=hb
 obtain⟨pa,ca,rfl,hca,hcella⟩:=ha
 obtain⟨pb,cb,rfl,hcb,hcellb⟩:=hb
 have HA:=hid ha';clear ha' hcella hca
 have HB:=hid hb';clear hb' hcellb hcb
 have SA:=hid sa;clear sa
 have SB:=hid sb;clear sb
 simp only[zV] at*
 obtain⟨M,hM⟩:∃M,M=max a.length b.length:=⟨_,rfl⟩
 rw[<-hM]
 have hM2:M<=1000:=by omega
 have hMa:∀k:Nat,(k<M↔(k<a.length\/k<b.length)):=λk=>by omega
 have HM:=hid hMa
 clear hM hMa
 go_enter Tryz.func265,Tryz.ntmps265
 go_wp2
 go_loopw [5,6,7] (λv c i wr=>∃k:Nat,k<=M+1/\i=.int .i64 k/\c=I (zaq (za6 B6) a b k).2/\wr.ownsRow w.heap.size 3 1 v k ((zaq (za6 B6) a b k).1.map I)/\zB w.heap.size w wr/\(k=M+1->(zaq (za6 B6) a b k).2=0))
  (λ_ _ i _=>M+1-(zL i).toNat)
 case atStart=>exact⟨0,zR _,rfl,rfl,World.ownsRow_made w #[] 0 (zN _) (by unfold maxLen;omega) rfl,(zM _ w).alloc (zN _) _,λh=>by omega⟩
 case round=>
  obtain⟨k,hk,rfl,rfl,hown,hB,hend⟩:=hrel
  obtain⟨p1,p2,p3⟩:=zna (B:=B6) (by decide) SA.out SB.out k
  by_cases hlt:k<a.length\/k<b.length\/0<(zaq (za6 B6) a b k).2
  ·have hkM:k<M+1:=by
    rcases hlt with h|h|h
    ·have:=(HM.out k).2 (.inl h);omega
    ·have:=(HM.out k).2 (.inr h);omega
    ·rcases Nat.lt_or_ge k (M+1) with h'|h'
     ·exact h'
     ·rw[hend (by omega)] at h;omega
   have hx:=zaj SA.out (by decide) k
   have hy:=zaj SB.out (by decide) k
   have hst:zaq (za6 B6) a b (k+1)=((zaq (za6 B6) a b k).1++[(za6 B6 (a[k]?.getD 0) (b[k]?.getD 0) (zaq (za6 B6) a b k).2).1],(za6 B6 (a[k]?.getD 0) (b[k]?.getD 0) (zaq (za6 B6) a b k).2).2):=rfl
   have hz:k=M->(zaq (za6 B6) a b (k+1)).2=0:=λe=>by
    have ha0:a[k]?.getD 0=0:=by rw[List.getElem?_eq_none (by have:=HM.out k;omega)];rfl
    have hb0:b[k]?.getD 0=0:=by rw[List.getElem?_eq_none (by have:=HM.out k;omega)];rfl
    rw[hst,ha0,hb0]
    exact z3h _ p2
   have HST:=hid hst;clear hst p1 p3 hend
   have HZ:=hid hz;clear hz
   generalize (zaq (za6 B6) a b k).1=o at*
   generalize (zaq (za6 B6) a b k).2=c at*
   have hx':a[k]?.getD 0<1000000:=hx
   have hy':b[k]?.getD 0<1000000:=hy
   clear hx hy
   have E1:∀x y:Nat,(Value.int .i64 (((x:Int)+y+c)%1000000))=I (za6 B6 x y c).1:=λx y=>by simp[I,za6,B6]
   have hE1:=hid E1;clear E1
   have HOWN:=hid hown;clear hown
   have LA:=hid λ(W:zA) (h:zB w.heap.size w W)=>zgz _ a k W (HA.out.below h) (by omega)
   have LB:=hid λ(W:zA) (h:zB w.heap.size w W)=>zgz _ b k W (HB.out.below h) (by omega)
   generalize a[k]?.getD 0=x at*
   generalize b[k]?.getD 0=y at*
   have h3:k<a.length\/(¬k<a.length/\k<b.length)\/(¬k<a.length/\¬k<b.length/\0<c):=by omega
   clear hlt
   rcases h3 with h1|⟨h1,h2⟩|⟨h1,h2,h4⟩<;>(
    go_wp2_with fail
    refine(LA.out wr hB).mono ?_
    rintro e w1 ⟨rfl,rfl⟩
    go_wp2_with fail
    refine(LB.out wr hB).mono ?_
    rintro e w1 ⟨rfl,rfl⟩
    go_wp2_with (at_builtin;refine wpList_append_own _ rfl _ _ 98 rfl w.heap.size 3 i0 (.int .i64 0) 1 8 Tryz.underlying98 hi hz0 hz1 hz2 rfl (by decide) _ _ _ rfl (HOWN.out.alloc _) ⟨wr.heap.size,0,none⟩ 1 1 [.int .i64 (((x:Int)+y+c)%1000000)] rfl rfl (zep _ _ _) (zfn _) (by unfold maxLen;omega) (by omega) (by have:=hB.size;simp;omega) ?_)
    intro v' w1 hown' hgrow _
    have hB1:zB w.heap.size w w1:=(hB.alloc hB.size _).grown hgrow (by have:=hB.size;simp;omega) (λq e=>(HOWN.out.lt q e).1)
    rw[hE1.out] at hown'
    clear hgrow hB HOWN
    go_wp2
    go_roundw
    case rel=>exact⟨k+1,by omega,by go_num,by rw[HST.out];simp[I,za6,B6],by rw[HST.out];simpa using hown',hB1,λe=>HZ.out (by omega)⟩
    case measure=>simp[zL];omega)
  ·have h1:¬k<a.length:=λh=>hlt (.inl h)
   have h2:¬k<b.length:=λh=>hlt (.inr (.inl h))
   have h3:(zaq (za6 B6) a b k).2=0:=by have:=λh=>hlt (.inr (.inr h));omega
   have hl:(zaq (za6 B6) a b k).1.length=k:=zdk _ _ _ _
   have hres:zat (zaq (za6 B6) a b k).1=zat (zaq (za6 B6) a b (M+1)).1:=by
    have hkM:M<=k:=by have:=HM.out k;omega
    rcases Nat.lt_or_ge k (M+1) with h|h
    ·obtain rfl:k=M:=by omega
     show _=zat ((zaq (za6 B6) a b k).1++[(za6 B6 (a[k]?.getD 0) (b[k]?.getD 0) (zaq (za6 B6) a b k).2).1])
     rw[List.getElem?_eq_none (by omega),List.getElem?_eq_none (by omega),h3]
     exact(zew _).symm
    ·obtain rfl:k=M+1:=by omega
     rfl
   have HR:=hid hres;clear hres
   obtain⟨o,ho⟩:∃o,o=(zaq (za6 B6) a b k).1:=⟨_,rfl⟩
   rw[<-ho] at hown hl
   have HO:=hid ho;clear ho
   have HL:=hid hl;clear hl p1 p2 p3 hend hlt
   rw[h3] at*
   obtain⟨vp,vm,vc,rfl⟩:=zg0 hown
   have HOWN:=hid hown;clear hown
   go_wp2_with fail
   refine(zeb _ _ _ o wr (Sl.of_own HOWN.out) (by rw[HL.out];omega)).mono ?_
   rintro e w1 ⟨rfl,rfl⟩
   go_wp2_with fail
   go_ret
   have hown':=zh4 HOWN.out HL.out
   rw[<-HO.out] at HR
   rw[HR.out] at hown'
   exact⟨_,rfl,by rw[HR.out];exact hown',hB⟩
end
section
theorem zzD {B:Nat} {a w:zA} (h:RowKit.Below B a w) (n:Nat):RowKit.Below B a (w.drewN n):=⟨h.os,h.tape,h.output,h.size,h.block⟩
open Go.RowKit Lib Str Limb
def zua (w:zA) (l:List Nat) (e:Ending) (w':zA):Prop:=
 ∃g c,e=.returned (.slice (some ⟨g,0,none⟩) l.length c)/\w'.ownsRow w.heap.size 3 1 (.slice (some ⟨g,0,none⟩) l.length c) l.length (l.map I)/\zB w.heap.size w w'
theorem zrr {w:zA} {base:Nat} {t:TypeId} {s:Nat} {v:Value} {n:Nat} {xs:List Value} (h:w.ownsRow base t s v n xs) (hne:v≠ .slice none 0 0):∃g c,v=.slice (some ⟨g,0,none⟩) n c:=by
 rcases h.2 with⟨e,_⟩|⟨g,cp,cur,e,_⟩
 ·exact absurd e hne
 ·exact⟨_,_,e⟩
theorem zix (va vb:Value) (a b:List Nat) (w:zA) (ha:Sl w va (a.map I)) (hb:Sl w vb (b.map I)) (sa:zal B6 a) (sb:zal B6 b) (la:a.length<=1000) (hba:b.length<=a.length) (hle:valL B6 b<=valL B6 a):
 zC zF 159 #[va,vb] w (zua w (zaa B6 (valL B6 a-valL B6 b))):=by
 rw[<-znb (B:=B6) (by decide) sa sb hle a.length (zN _) hba]
 obtain⟨i0,hi,hz0,hz1,hz2⟩:=info_parts zdv
 have ha':=ha;have hb':=hb
 obtain⟨pa,ca,rfl,hca,hcella⟩:=ha
 obtain⟨pb,cb,rfl,hcb,hcellb⟩:=hb
 have HA:=hid ha';clear ha' hcella hca
 have HB:=hid hb';clear hb' hcellb hcb hle
 have SA:=hid sa;clear sa
 have SB:=hid sb;clear sb
 simp only[zV] at*
 go_enter Tryz.func159,Tryz.ntmps159
 go_wp2
 go_loopw [5,6,7] (λv c i wr=>∃k:Nat,k<=a.length/\i=.int .i64 k/\c=I (zaq (za1 B6) a b k).2/\wr.ownsRow w.heap.size 3 1 v k ((zaq (za1 B6) a b k).1.map I)/\zB w.heap.size w wr/\v≠ .slice none 0 0)
  (λ_ _ i _=>a.length-(zL i).toNat)
 case atStart=>exact⟨0,zR _,rfl,rfl,World.ownsRow_made w #[] 0 (zN _) (by unfold maxLen;omega) rfl,(zM _ w).alloc (zN _) _,λh=>by cases h⟩
 case round=>
  obtain⟨k,hk,rfl,rfl,hown,hB,hne⟩:=hrel
  have HNE:=hid hne;clear hne
  obtain⟨p1,p2,p3⟩:=zlo (B:=B6) (by decide) SA.out SB.out k
  by_cases hlt:k<a.length
  ·obtain⟨ba,offa,rfl,hba',hcapa,hcx⟩:=(HA.out.below hB).at hlt
   have hx:=zaj SA.out (by decide) k
   have hy:=zaj SB.out (by decide) k
   have hst:zaq (za1 B6) a b (k+1)=((zaq (za1 B6) a b k).1++[(za1 B6 (a[k]?.getD 0) (b[k]?.getD 0) (zaq (za1 B6) a b k).2).1],(za1 B6 (a[k]?.getD 0) (b[k]?.getD 0) (zaq (za1 B6) a b k).2).2):=rfl
   have HST:=hid hst;clear hst p1 p3
   generalize (zaq (za1 B6) a b k).1=o at*
   generalize (zaq (za1 B6) a b k).2=c at*
   have hx':a[k]?.getD 0<1000000:=hx
   have hy':b[k]?.getD 0<1000000:=hy
   clear hx hy
   have HOWN:=hid hown;clear hown
   have LB:=hid λ(W:zA) (h:zB w.heap.size w W)=>zgz _ b k W (HB.out.below h) (by omega)
   generalize a[k]?.getD 0=x at*
   generalize b[k]?.getD 0=y at*
   have e1:IntKind.i64.wrap ((x:Int)-y)=(x:Int)-y:=zI _ (by omega)
   have e2:IntKind.i64.wrap ((x:Int)-y-c)=(x:Int)-y-c:=zI _ (by omega)
   have fin:∀(v':Value) (w1:zA) (z:Int) (W:zA),zB w.heap.size w W->W.ownsRow w.heap.size 3 1 v' (k+1) (o.map I++[.int .i64 z])->True:=λ_ _ _ _ _ _=>trivial
   clear fin
   by_cases hge:y+c<=x
   ·have hE:Hid (Value.int .i64 ((x:Int)-y-c)=I (za1 B6 x y c).1/\(za1 B6 x y c).2=0):=hid (by
     have e:za1 B6 x y c=(x-y-c,0):=by unfold za1;rw[if_pos hge]
     rw[e];exact⟨by show Value.int .i64 _=Value.int .i64 _;congr 1;omega,rfl⟩)
    have hn:¬(x:Int)-y-c<0:=by omega
    go_wp2
    go_quiet ((go_at_call 158;exact Calls.quiet_of_same (zi5 (LB.out _ (hB.trans (zzD (zM _ _) _))))))
    clear e1 e2
    have hB2:zB w.heap.size w (wr.drewN nq):=zzD hB _
    have HOWN2:=hid (show(wr.drewN nq).ownsRow w.heap.size 3 1 _ k (o.map I) from HOWN.out)
    clear HOWN hcx hB hba'
    go_wp2_with (at_builtin;refine wpList_append_own _ rfl _ _ 98 rfl w.heap.size 3 i0 (.int .i64 0) 1 8 Tryz.underlying98 hi hz0 hz1 hz2 rfl (by decide) _ _ _ rfl (HOWN2.out.alloc _) ⟨wr.heap.size,0,none⟩ 1 1 [.int .i64 ((x:Int)-y-c)] rfl rfl (zep _ _ _) (zfn _) (by unfold maxLen;omega) (by omega) (by have:=hB2.size;simp at this⊢;omega) ?_)
    intro v' w1 hown' hgrow hnn
    have HNN:=hid (show v'≠ .slice none 0 0 from hnn);clear hnn
    have hB1:zB w.heap.size w w1:=(hB2.alloc hB2.size _).grown hgrow (by have:=hB2.size;simp at this⊢;omega) (λq e=>(HOWN2.out.lt q e).1)
    rw[hE.out.1] at hown'
    clear hgrow hB2 HOWN2
    go_wp2
    go_roundw
    case rel=>exact⟨k+1,by omega,by go_num,by rw[HST.out,hE.out.2];rfl,by rw[HST.out];simpa using hown',hB1,HNN.out⟩
    case measure=>simp[zL];omega
   ·have hE:Hid (Value.int .i64 ((x:Int)-y-c+1000000)=I (za1 B6 x y c).1/\(za1 B6 x y c).2=1):=hid (by
     have e:za1 B6 x y c=(x+B6-y-c,1):=by unfold za1;rw[if_neg hge]
     rw[e];exact⟨by show Value.int .i64 _=Value.int .i64 _;congr 1;unfold B6;omega,rfl⟩)
    have hn:(x:Int)-y-c<0:=by omega
    have e3:IntKind.i64.wrap ((x:Int)-y-c+1000000)=(x:Int)-y-c+1000000:=zI _ (by omega)
    go_wp2
    go_quiet ((go_at_call 158;exact Calls.quiet_of_same (zi5 (LB.out _ (hB.trans (zzD (zM _ _) _))))))
    clear e1 e2
    have hB2:zB w.heap.size w (wr.drewN nq):=zzD hB _
    have HOWN2:=hid (show(wr.drewN nq).ownsRow w.heap.size 3 1 _ k (o.map I) from HOWN.out)
    clear HOWN hcx hB hba'
    go_wp2_with (at_builtin;refine wpList_append_own _ rfl _ _ 98 rfl w.heap.size 3 i0 (.int .i64 0) 1 8 Tryz.underlying98 hi hz0 hz1 hz2 rfl (by decide) _ _ _ rfl (HOWN2.out.alloc _) ⟨wr.heap.size,0,none⟩ 1 1 [.int .i64 ((x:Int)-y-c+1000000)] rfl rfl (zep _ _ _) (zfn _) (by unfold maxLen;omega) (by omega) (by have:=hB2.size;simp at this⊢;omega) ?_)
    intro v' w1 hown' hgrow hnn
    have HNN:=hid (show v'≠ .slice none 0 0 from hnn);clear hnn
    have hB1:zB w.heap.size w w1:=(hB2.alloc hB2.size _).grown hgrow (by have:=hB2.size;simp at this⊢;omega) (λq e=>(HOWN2.out.lt q e).1)
    rw[hE.out.1] at hown'
    clear hgrow hB2 HOWN2 e3
    go_wp2
    go_roundw
    case rel=>exact⟨k+1,by omega,by go_num,by rw[HST.out,hE.out.2];rfl,by rw[HST.out];simpa using hown',hB1,HNN.out⟩
    case measure=>simp[zL];omega
  ·obtain rfl:k=a.length:=by omega
   have hl:(zaq (za1 B6) a b a.length).1.length=a.length:=zdk _ _ _ _
   obtain⟨o,ho⟩:∃o,o=(zaq (za1 B6) a b a.length).1:=⟨_,rfl⟩
   rw[<-ho] at hown hl
   have HO:=hid ho
   have HL:=hid hl;clear hl p1 p2 p3
   obtain⟨vg,vc,rfl⟩:=zrr hown HNE.out
   have HOWN:=hid hown;clear hown ho
   go_wp2_with fail
   refine(zeb _ _ _ o wr (Sl.of_own HOWN.out) (by rw[HL.out];omega)).mono ?_
   rintro e w1 ⟨rfl,rfl⟩
   go_wp2_with fail
   go_ret
   rw[<-HO.out]
   exact⟨_,_,rfl,zh4 HOWN.out HL.out,hB⟩
theorem znw (va vb:Value) (a b:List Nat) (w:zA) (ha:Sl w va (a.map I)) (hb:Sl w vb (b.map I)) (sa:zal B6 a) (sb:zal B6 b) (la:a.length<=1000) (hba:b.length<=a.length) (hle:valL B6 b<=valL B6 a):
 zC zF 159 #[va,vb] w (zht w (zaa B6 (valL B6 a-valL B6 b))):=
 (zix va vb a b w ha hb sa sb la hba hle).mono λ_ _ ⟨_,_,h1,h2,h3⟩=>⟨_,h1,h2,h3⟩
theorem zxc (m n:Nat) (hl:(zaa B6 m).length=(zaa B6 n).length) (k:Nat) (hk:k<(zaa B6 m).length) (h:∀i,k<i->i<(zaa B6 m).length->(zaa B6 m)[i]?.getD 0=(zaa B6 n)[i]?.getD 0):
 ((zaa B6 m)[k]?.getD 0<(zaa B6 n)[k]?.getD 0->m<n)/\((zaa B6 n)[k]?.getD 0<(zaa B6 m)[k]?.getD 0->n<m):=by
 have hB:2<=B6:=by decide
 have sa:=zak hB m
 have sb:=zak hB n
 have hd:=ztr hl k h
 constructor
 ·intro hlt
  have:=zem sa sb hl k hk hd hlt
  rwa [zam hB,zam hB] at this
 ·intro hgt
  have:=zem sb sa hl.symm k (by omega) hd.symm hgt
  rwa [zam hB,zam hB] at this
theorem z27 (m n:Nat) (hl:(zaa B6 m).length=(zaa B6 n).length) (h:∀i,i<(zaa B6 m).length->(zaa B6 m)[i]?.getD 0=(zaa B6 n)[i]?.getD 0):m=n:=by
 have hB:2<=B6:=by decide
 rw[<-zam hB m,zoa hl h,zam hB]
def ordN (m n:Nat):Int:=if m<n then-1 else if m=n then 0 else 1
theorem zlc (va vb:Value) (m n:Nat) (w:zA) (ha:Sl w va ((zaa B6 m).map I)) (hb:Sl w vb ((zaa B6 n).map I)) (la:(zaa B6 m).length<=1000) (_:(zaa B6 n).length<=1000):
 zC zF 161 #[va,vb] w λe w'=>e=.returned (.int .i64 (ordN m n))/\zB w.heap.size w w':=by
 have ha':=ha;have hb':=hb
 obtain⟨pa,ca,rfl,hca,hcella⟩:=ha
 obtain⟨pb,cb,rfl,hcb,hcellb⟩:=hb
 have HA:=hid ha';clear ha' hcella hca
 have HB:=hid hb';clear hb' hcellb hcb
 simp only[zV] at*
 have hlt':=zc2 (B:=B6) (by decide) (m:=m) (n:=n)
 have hgt':=zc2 (B:=B6) (by decide) (m:=n) (n:=m)
 have SA:=hid (zak (B:=B6) (by decide) m)
 have SB:=hid (zak (B:=B6) (by decide) n)
 by_cases hl:(zaa B6 m).length=(zaa B6 n).length
 ·have CP:=hid (zxc m n hl)
  have CE:=hid (z27 m n hl)
  rw[<-hl]
  clear hlt' hgt'
  have HL:=hid hl;clear hl
  generalize zaa B6 m=a at*
  generalize zaa B6 n=b at*
  go_enter Tryz.func161,Tryz.ntmps161
  go_wp2
  go_loopw [5] (λi wr=>∃k:Nat,k<=a.length/\i=.int .i64 ((k:Int)-1)/\(∀j,k<=j->j<a.length->a[j]?.getD 0=b[j]?.getD 0)/\zB w.heap.size w wr)
   (λi _=>(zL i+1).toNat)
  case atStart=>exact⟨a.length,zN _,rfl,λj h1 h2=>by omega,zM _ _⟩
  case round=>
   obtain⟨k,hk,rfl,hsame,hB⟩:=hrel
   rcases Nat.eq_zero_or_pos k with rfl|hp
   ·obtain rfl:m=n:=CE.out λi hi=>hsame i (zR _) hi
    clear hsame
    go_wp2
    go_ret
    exact⟨by unfold ordN;simp,hB⟩
   ·obtain⟨i,rfl⟩:∃i,k=i+1:=⟨k-1,by omega⟩
    have hi1:((i+1:Nat):Int)-1=(i:Int):=by omega
    rw[hi1]
    have hia:i<a.length:=by omega
    have hib:i<b.length:=by have:=HL.out;omega
    obtain⟨ba,offa,rfl,hba,hcapa,hcx⟩:=(HA.out.below hB).at hia
    obtain⟨bb,offb,rfl,hbb,hcapb,hcy⟩:=(HB.out.below hB).at hib
    have hcp:=CP.out i hia (λj h1 h2=>hsame j h1 h2)
    have hsn:a[i]?.getD 0=b[i]?.getD 0->∀j,i<=j->j<a.length->a[j]?.getD 0=b[j]?.getD 0:=λe j h1 h2=>by
     rcases Nat.lt_or_ge i j with h|h
     ·exact hsame j h h2
     ·obtain rfl:j=i:=by omega
      exact e
    have HS:=hid hsn;clear hsn hsame hi1
    have hx:=zaj SA.out (by decide) i
    have hy:=zaj SB.out (by decide) i
    have hx':a[i]?.getD 0<1000000:=hx
    have hy':b[i]?.getD 0<1000000:=hy
    clear hx hy
    have HLb:(a.length:Int)=b.length:=by have:=HL.out;omega
    have HB2:=hid hB
    generalize a[i]?.getD 0=x at*
    generalize b[i]?.getD 0=y at*
    rcases Nat.lt_trichotomy x y with hc|hc|hc
    ·have ho:ordN m n= -1:=by unfold ordN;rw[if_pos (hcp.1 hc)]
     have HO:=hid ho
     clear hcp HS ho
     go_wp2
     go_quiet (fail)
     go_wp2
     go_ret
     exact⟨by rw[HO.out];rfl,zzD HB2.out _⟩
    ·have HS':=hid (HS.out hc)
     subst hc
     clear hcp HS
     go_wp2
     go_quiet (fail)
     go_wp2
     go_quiet (fail)
     go_wp2
     go_roundw
     case rel=>exact⟨i,by omega,rfl,HS'.out,zzD HB2.out _⟩
     case measure=>simp[zL]
    ·have ho:ordN m n=1:=by unfold ordN;have:=hcp.2 hc;rw[if_neg (by omega),if_neg (by omega)]
     have hc2:¬x<y:=by omega
     have HO:=hid ho
     clear hcp HS ho
     go_wp2
     go_quiet (fail)
     go_wp2
     go_quiet (fail)
     go_wp2
     go_ret
     exact⟨by rw[HO.out];rfl,zzD (zzD HB2.out _) _⟩
 ·have hl':¬(((zaa B6 m).length:Int)=(zaa B6 n).length):=by omega
  rcases Nat.lt_or_gt_of_ne hl with h|h
  ·have ho:ordN m n= -1:=by unfold ordN;rw[if_pos (hlt' h)]
   rw[ho]
   clear ho hlt' hgt' hl
   generalize (zaa B6 m).length=x at*
   generalize (zaa B6 n).length=y at*
   go_enter Tryz.func161,Tryz.ntmps161
   go_wp2
   go_ret
   exact⟨rfl,zM _ _⟩
  ·have ho:ordN m n=1:=by unfold ordN;have:=hgt' h;rw[if_neg (by omega),if_neg (by omega)]
   rw[ho]
   have h2:¬(zaa B6 m).length<(zaa B6 n).length:=by omega
   clear ho hlt' hgt' hl
   generalize (zaa B6 m).length=x at*
   generalize (zaa B6 n).length=y at*
   go_enter Tryz.func161,Tryz.ntmps161
   go_wp2
   go_ret
   exact⟨rfl,zM _ _⟩
end
section
open Go.RowKit Lib Str Limb
theorem z14 {a b:List Nat} (sa:zal B6 a) (sb:zal B6 b) (i:Nat) (hi:i<a.length):
 (zay B6 (a[i]?.getD 0) b i (zbp B6 a b i) (b.length+1)).2=0:=by
 have hB:2<=B6:=by decide
 obtain⟨t1,t2,t3⟩:=zdf hB sa sb i (Nat.le_of_lt hi)
 obtain⟨r1,r2,r3,r4⟩:=zfw hB (zaj sa (by decide) i) sb i t2 (b.length+1) (by rw[t1];omega)
 rw[List.take_of_length_le (by omega),t3] at r4
 have k1:valL B6 (a.take i)*valL B6 b+B6^i*(a[i]?.getD 0*valL B6 b)=valL B6 (a.take (i+1))*valL B6 b:=by
  rw[zbo,Nat.add_mul,Nat.mul_assoc]
 rw[k1] at r4
 have h1:=zb6 (zcu sa (i+1))
 rw[zX,Nat.min_eq_left (by omega)] at h1
 have h2:=zb6 sb
 have h3:valL B6 (a.take (i+1))*valL B6 b<B6^(i+1)*B6^b.length:=Nat.mul_lt_mul'' h1 h2
 rw[<-Nat.pow_add,show i+1+b.length=i+(b.length+1) by omega] at h3
 rcases Nat.eq_zero_or_pos (zay B6 (a[i]?.getD 0) b i (zbp B6 a b i) (b.length+1)).2 with h|h
 ·exact h
 ·have:=Nat.mul_le_mul_left (B6^(i+(b.length+1))) h
  omega
theorem zzr {x:Nat} {b out:List Nat} (i:Nat) (so:zal B6 (zay B6 x b i out b.length).1) (hlen:i+b.length<(zay B6 x b i out b.length).1.length) (h:(zay B6 x b i out b.length).2=0):
 (zay B6 x b i out (b.length+1)).1=(zay B6 x b i out b.length).1:=by
 show(zay B6 x b i out b.length).1.set (i+b.length) (((zay B6 x b i out b.length).1[i+b.length]?.getD 0+x*b[b.length]?.getD 0+(zay B6 x b i out b.length).2)%B6)=_
 rw[h,List.getElem?_eq_none (l:=b) (zN _)]
 have:=zaj so (by decide) (i+b.length)
 simp only[Option.getD_none,Nat.mul_zero,Nat.add_zero]
 rw[Nat.mod_eq_of_lt this,List.getElem?_eq_getElem hlen]
 simp
theorem znx (va vb:Value) (a b:List Nat) (w:zA) (ha:Sl w va (a.map I)) (hb:Sl w vb (b.map I)) (sa:zal B6 a) (sb:zal B6 b) (la:a.length<=1000) (lb:b.length<=1000):
 zC zF 160 #[va,vb] w (zht w (zaa B6 (valL B6 a*valL B6 b))):=by
 rw[<-zjp (B:=B6) (by decide) sa sb]
 obtain⟨i0,hi,hz0,hz1,hz2⟩:=info_parts zdv
 have ha':=ha;have hb':=hb
 obtain⟨pa,ca,rfl,hca,hcella⟩:=ha
 obtain⟨pb,cb,rfl,hcb,hcellb⟩:=hb
 have HA:=hid ha';clear ha' hcella hca
 have HB:=hid hb';clear hb' hcellb hcb
 have SA:=hid sa;clear sa
 have SB:=hid sb;clear sb
 simp only[zV] at*
 go_enter Tryz.func160,Tryz.ntmps160
 go_wp2_with (at_make;refine wpList_make_full _ rfl _ _ 98 rfl w.heap.size 3 i0 (.int .i64 0) 1 Tryz.underlying98 hi hz0 hz1 .i64 .i64 _ _ (a.length+b.length+1) rfl rfl (by omega) (by omega) (by rw[hz2];omega) (by unfold maxLen;omega) (zN _) ?_)
 intro w0 hown hgrow
 rw[toList_madeCells_one,<-show(List.replicate (a.length+b.length+1) 0).map I=List.replicate (a.length+b.length+1) (.int .i64 0) by simp] at hown
 obtain⟨hrow, -⟩:=Row.of_own hown
 have hB0:zB w.heap.size w w0:=(zM _ _).grown hgrow (zN _) (λ_ e=>by cases e)
 clear hown hgrow
 obtain⟨N,hN⟩:∃N,N=a.length+b.length+1:=⟨_,rfl⟩
 have hN2:(a.length:Int)+b.length+1=N:=by omega
 rw[<-hN] at hrow⊢
 have HN:=hid hN;clear hN
 obtain⟨g,hg⟩:∃g,g=w.heap.size:=⟨_,rfl⟩
 rw[<-hg] at hrow⊢
 have HG:=hid hg;clear hg
 clear hN2
 go_wp2
 go_loopw [6] (λi wr=>∃k:Nat,k<=a.length/\i=.int .i64 k/\Row wr g N (zbp B6 a b k)/\zB w.heap.size w wr)
  (λi _=>a.length-(zL i).toNat)
 case atStart=>exact⟨0,zR _,rfl,by rw[zbp,<-HN.out];exact hrow,hB0⟩
 case round=>
  clear hrow hB0
  obtain⟨i,hk,rfl,hrow,hB⟩:=hrel
  by_cases hlt:i<a.length
  ·obtain⟨ba,offa,rfl,hba,hcapa,hcx⟩:=(HA.out.below hB).at hlt
   have hxs:=zaj SA.out (by decide) i
   obtain⟨ts1,ts2, -⟩:=zdf (B:=B6) (by decide) SA.out SB.out i hk
   have hst:zbp B6 a b (i+1)=(zay B6 (a[i]?.getD 0) b i (zbp B6 a b i) (b.length+1)).1:=rfl
   have hre:=z14 SA.out SB.out i hlt
   rw[<-HN.out] at ts1
   have HST:=hid hst;clear hst
   have HRE:=hid hre;clear hre
   generalize zbp B6 a b i=L at*
   have TS1:=hid ts1;clear ts1
   have TS2:=hid ts2;clear ts2
   have hxe:a[i]?.getD 0<1000000:=hxs
   clear hxs hcx
   have HXA:=hid hxe;clear hxe
   obtain⟨x,hx⟩:∃x,x=a[i]?.getD 0:=⟨_,rfl⟩
   rw[<-hx] at HST HRE HXA
   have HXE:=hid hx;clear hx
   go_wp2
   obtain⟨wo,hwo⟩:∃wo:zA,wo=wr:=⟨_,rfl⟩
   have HWO:=hid hwo;clear hwo
   go_loopw [7,8] (λc j wr=>∃k:Nat,k<=b.length+1/\j=.int .i64 k/\c=I (zay B6 x b i L k).2/\Row wr g N (zay B6 x b i L k).1/\zB w.heap.size w wr)
    (λ_ j _=>b.length+1-(zL j).toNat)
   case atStart=>exact⟨0,zR _,rfl,rfl,hrow,hB⟩
   case round=>
    clear hrow hB
    obtain⟨k,hkk,rfl,rfl,hrow,hB⟩:=hrel
    have HN3:N=a.length+b.length+1:=HN.out
    obtain⟨r1,r2,r3, -⟩:=zfw (B:=B6) (by decide) (show x<B6 from HXA.out) SB.out i TS2.out k (by rw[TS1.out];omega)
    by_cases hgo:k<b.length\/0<(zay B6 x b i L k).2
    ·have hlk:k<b.length+1:=by
      rcases hgo with h|h
      ·omega
      ·rcases Nat.lt_or_ge k (b.length+1) with h'|h'
       ·exact h'
       ·obtain rfl:k=b.length+1:=by omega
        rw[HRE.out] at h;omega
     have hys:=zaj SB.out (by decide) k
     have hst:zay B6 x b i L (k+1)=((zay B6 x b i L k).1.set (i+k) (((zay B6 x b i L k).1[i+k]?.getD 0+x*b[k]?.getD 0+(zay B6 x b i L k).2)%B6),((zay B6 x b i L k).1[i+k]?.getD 0+x*b[k]?.getD 0+(zay B6 x b i L k).2)/B6):=rfl
     have HST2:=hid hst;clear hst
     generalize zay B6 x b i L k=r at*
     obtain⟨l,c⟩:=r
     dsimp only at*
     have hlen:i+k<l.length:=by rw[r1,TS1.out];omega
     have hcell:=hrow.cell (getD_some hlen)
     have hfz:=hrow.frozen (i+k)
     have hzs:=zaj r2 (by decide) (i+k)
     have hc':c<1000000:=r3
     have hz':l[i+k]?.getD 0<1000000:=hzs
     have hy':b[k]?.getD 0<1000000:=hys
     have hx':x<1000000:=HXA.out
     have hb2:i+k<N:=by omega
     have hiN:(0:Int)<=(i:Int)+k:=by omega
     have hiN2:(i:Int)+k<N:=by omega
     have LB:=hid λ(W:zA) (h:zB w.heap.size w W)=>zgz _ b k W (HB.out.below h) (by omega)
     obtain⟨ba',offa',e',hba,hcapa,hcx⟩:=(HA.out.below hB).at hlt
     simp only[Option.some.injEq,Addr.mk.injEq,and_true] at e'
     obtain⟨rfl,rfl⟩:=e'
     rw[<-HXE.out] at hcx
     have HROW:=hid hrow
     clear r1 r2 r3 hzs hys hrow hlen HN3
     generalize hzz:l[i+k]?.getD 0=z at*
     have HZZ:=hid hzz;clear hzz
     generalize b[k]?.getD 0=y at*
     have hp0:(0:Int)<=(x:Int)*y:=by rw[<-Int.natCast_mul];omega
     have hp1:(x:Int)*y<=999998000001:=by
      have:=Nat.mul_le_mul (show x<=999999 by omega) (show y<=999999 by omega)
      rw[<-Int.natCast_mul];omega
     have e1:IntKind.i64.wrap ((x:Int)*y)=(x:Int)*y:=zI _ (by omega)
     have e2:IntKind.i64.wrap ((z:Int)+(x:Int)*y)=(z:Int)+(x:Int)*y:=zI _ (by omega)
     have e3:IntKind.i64.wrap ((z:Int)+(x:Int)*y+c)=(z:Int)+(x:Int)*y+c:=zI _ (by omega)
     have e4:IntKind.i64.wrap ((i:Int)+k)=(i:Int)+k:=zI _ (by omega)
     have e5:((i:Int)+k).toNat=i+k:=by omega
     have HP:=hid (⟨hp0,hp1⟩:_/\_);clear hp0 hp1
     have h3:k<b.length\/(¬k<b.length/\0<c):=by omega
     clear hgo
     rcases h3 with h1|⟨h1,h2⟩<;>(
      go_wp2
      go_quiet ((go_at_call 158;exact Calls.quiet_of_same (zi5 (LB.out _ (hB.trans (zzD (zM _ _) _))))))
      clear e1 e2 e3
      have hp0:=HP.out.1;have hp1:=HP.out.2
      go_wp2
      go_roundw
      case rel=>
       refine⟨k+1,by omega,by go_num,?_,?_,?_⟩
       ·rw[HST2.out];simp[B6]
       ·rw[HST2.out]
        have:=Row.set (w:=wr.drewN nq) (show Row (wr.drewN nq) g N l from HROW.out) (i+k) ((z+x*y+c)%B6)
        have e:I ((z+x*y+c)%B6)=.int .i64 (((z:Int)+x*y+c)%1000000):=by simp[I,B6]
        rw[e] at this
        exact this
       ·exact(zzD hB _).setCell (by rw[HG.out];exact zN _) _
      case measure=>simp[zL];omega)
    ·have h1:¬k<b.length:=λh=>hgo (.inl h)
     have h2:(zay B6 x b i L k).2=0:=by have:=λh=>hgo (.inr h);omega
     have hres:(zay B6 x b i L k).1=zbp B6 a b (i+1):=by
      rw[HST.out]
      rcases Nat.lt_or_ge k (b.length+1) with h|h
      ·obtain rfl:k=b.length:=by omega
       exact(zzr i r2 (by rw[r1,TS1.out];omega) h2).symm
      ·obtain rfl:k=b.length+1:=by omega
       rfl
     rw[h2] at*
     rw[hres] at hrow
     have HROW:=hid hrow;clear hrow hres r1 r2 r3 hgo
     go_wp2
     go_roundw
     case rel=>exact⟨i+1,by omega,by go_num,HROW.out,hB⟩
     case measure=>simp[zL];omega
  ·obtain rfl:i=a.length:=by omega
   obtain⟨ts1,ts2, -⟩:=zdf (B:=B6) (by decide) SA.out SB.out a.length hk
   rw[<-HN.out] at ts1
   have hsl:=hrow.sl
   have hown:=hrow.own (base:=w.heap.size) (by rw[HG.out];exact zN _)
   rw[ts1] at hsl
   have HE:=hid (⟨ts1,hown⟩:_/\_)
   generalize hL:zbp B6 a b a.length=L at*
   have HSL:=hid hsl;clear hsl hown hrow ts1 ts2
   have HLL:=hid hL;clear hL
   go_wp2_with fail
   refine(zeb _ _ _ L wr HSL.out (by rw[HE.out.1,HN.out];omega)).mono ?_
   rintro e w1 ⟨rfl,rfl⟩
   go_wp2_with fail
   go_ret
   have:=zeq HE.out.2 rfl
   rw[HE.out.1] at this
   exact⟨_,rfl,this,hB⟩
end
end Go.Proofs.YtlaccnphhomdgaaGreatDoor
