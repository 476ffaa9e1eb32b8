/- Where a surd's range lies apart from 0, and whether a range has a surd (plain). -/
import Derived.Test.YtnjiiafnneillaaGreatDoorY14
import Derived.Maps.AppendAt
import Derived.LoopNIn
set_option maxRecDepth 100000
set_option maxHeartbeats 8000000
open Go renaming World → zA, Calls → zC
open Go.RowKit renaming Below → zB, intOf → zL
open Go.Lib renaming decDigits → zD
open Go.Proofs.Tryz renaming prog → zF
open Go.Joins renaming cell_of_block → zJ, block_setCell → zK
open Go.RowKit.Below renaming refl → zM
open Nat renaming le_refl → zN, le_trans → zO, zero_le → zR, pow_le_pow_right → yF
open List renaming nil_append → yI
namespace Go.Proofs.YtnjiiafnneillaaGreatDoor
section
open Go.RowKit Lib Str Limb
theorem yap {a:Rat} (h0:a≠0) (hd:a.den<10^60):sgeL [(a,1)]=0:=by
 obtain⟨f1,f2⟩:=zn6 (l:=[(a,1)]) (by simp) (λt ht=>by obtain rfl:=List.mem_singleton.1 ht;exact h0);have hn:a.num≠0:=λh=>h0 (Rat.num_eq_zero.1 h);have hs:isq (trN (a,1) 64)=a.num.natAbs*10^64:=by
  show isq (a.num.natAbs*a.num.natAbs*1*10^(2*64))=_;rw[show a.num.natAbs*a.num.natAbs*1*10^(2*64)=(a.num.natAbs*10^64)*(a.num.natAbs*10^64) by
   rw[show(10:Nat)^(2*64)=10^64*10^64 by decide+kernel];generalize (10:Nat)^64=T;rw[Nat.mul_one];ac_rfl]
  exact z1p _
 have hv:valZ [(a,1)] 64=floT a (a.num.natAbs*10^64) (trN (a,1) 64):=by
  show floT a (isq (trN (a,1) 64)) (trN (a,1) 64)+0=_;rw[hs,Int.add_zero]
 have hq:2<=a.num.natAbs*10^64/a.den:=by
  rw[Nat.le_div_iff_mul_le a.den_pos];have h1:1*10^64<=a.num.natAbs*10^64:=Nat.mul_le_mul_right _ (by omega);have h2:2*a.den<=2*10^60:=Nat.mul_le_mul_left _ (by omega);exact zO h2 (zO (by decide+kernel) h1)
 rw[hv] at f1 f2;generalize trN (a,1) 64=t at*
 unfold floT at f1 f2;generalize a.num.natAbs*10^64/a.den=d at*
 by_cases g:a.num<0
 ·rw[if_pos g] at f2
  refine(f2 ?_).1;show _+((1:Nat):Int)<0;omega
 ·rw[if_neg g] at f1
  exact(f1 (by omega)).1
theorem yd0 {a:Rat} (h:sz a 60):dfL (rs a) []=rs a:=by
 show mkG (rs a++sclL [] (-1))=_;rw[show rs a++sclL [] (-1)=rs a by simp[sclL],z5n (zbz h)]
theorem z0q:PosR []:=λt ht=>by cases ht
theorem z3a {a:Rat} (h:sz a 60):(ordF [] a).2=0/\(0<a->(ordF [] a).1= -1)/\(a<0->(ordF [] a).1=1):=by
 have e0:(ordF [] a).2=0:=by
  unfold ordF;rw[yd0 h];have c:∀t∈rs a,sz t.1 60:=λt ht=>by
   by_cases z:a=0
   ·subst z;rw[zbc] at ht;cases ht
   ·rw[za5 z] at ht;obtain rfl:=List.mem_singleton.1 ht;exact h
  have d:sgeL (rs a)=0:=by
   by_cases z:a=0
   ·subst z;rw[zbc];rfl
   ·rw[za5 z];exact yap z h.2
  rw[if_pos ⟨h,c,d⟩]
 have hx:∀q,exE [] a q= -(a*tn q):=λq=>by unfold exE;rw[zfu];grind
 refine⟨e0,λg=>?_,λg=>?_⟩
 ·rcases(zp9 z0q e0).2 with⟨_,p⟩|⟨p,_⟩|⟨_,p,_⟩
  ·exact(p.no (z2j g).lo λq=>by have:=hx q;grind).elim
  ·exact p
  ·exact((z2j g).no p hx).elim
 ·have gp:=z2j (show 0< -a by grind)
  rcases(zp9 z0q e0).2 with⟨p,_⟩|⟨_,p⟩|⟨_,_,p⟩
  ·exact p
  ·exact(p.no gp.lo λq=>by have:=hx q;grind).elim
  ·exact(gp.no p λq=>by have:=hx q;grind).elim
theorem z83 (u:Rat) (hu:0<u):ofU [] u=some (0,0):=by
 have n0:zp8 u []=0:=by
  unfold zp8;rw[show sumZ (u*mkRat 1 1000) [] ([]:List (Rat×Nat)).length=0 from rfl,show(((0:Int)):Rat)=0 from rfl,Rat.zero_mul];rfl
 have o0:ordF [] 0=(0,0):=by
  obtain⟨e, -, -⟩:=z3a (zd2 60 (by omega));have h1:=z8w z0q (a:=0) ⟨0,λq=>by unfold exE;rw[zfu];grind⟩ e;have h2:=z5u z0q (a:=0) ⟨0,λq=>by show _<= -(vZ [] q-0*tn q);rw[zfu];grind⟩ e;exact Prod.ext (by omega) e
 unfold ofU;rw[n0,show(((0-1:Int)):Rat)*u= -u by rw[show((0-1:Int))= -1 from rfl,show((-1:Int):Rat)= -1 from rfl];grind];unfold ofR;rw[if_neg (λe=>by
  have:=(z3t z0q e).1.2;have hx:∀q,exE [] (-u) q=u*tn q:=λq=>by unfold exE;rw[zfu];grind
  exact((z2j hu).no this λq=>by rw[hx]))]
 show z00 (ordF []) u (3+1) (-u)=_;unfold z00;rw[show-u+u=0 by grind,if_pos o0]
def sepR (l:List (Rat×Nat)):Nat->Nat->Int×Int
 |0,_=>(0,4)
 |f+1,i=>match ofU l (zet i) with
  |none=>(0,4)
  |some p=>if 0<p.1\/p.2<0 then((i:Int),0) else sepR l f (i+1)
theorem z56 (l:List (Rat×Nat)):∀f i,(sepR l f i=(0,4))\/∃(k:Nat) (p:Rat×Rat),i<=k/\k<i+f/\sepR l f i=((k:Int),0)/\ofU l (zet k)=some p/\(0<p.1\/p.2<0)
 |0,_=>.inl rfl
 |f+1,i=>by
  cases h:ofU l (zet i) with
  |none=>left;show(match ofU l (zet i) with|none=>_|some p=>_)=_;rw[h]
  |some p=>
   have e:sepR l (f+1) i=if 0<p.1\/p.2<0 then((i:Int),0) else sepR l f (i+1):=by
    show(match ofU l (zet i) with|none=>_|some p=>_)=_;rw[h]
   by_cases g:0<p.1\/p.2<0
   ·exact .inr ⟨i,p,zN _,by omega,by rw[e,if_pos g],h,g⟩
   ·rw[e,if_neg g]
    rcases z56 l f (i+1) with s|⟨k,p',h1,h2,h3,h4,h5⟩
    ·exact .inl s
    ·exact .inr ⟨k,p',by omega,by omega,h3,h4,h5⟩
def conF (l:List (Rat×Nat)) (p:Rat×Rat):Bool×Int:=if(ordF l p.1).2=0/\(ordF l p.2).2=0 then(decide (0<=(ordF l p.1).1)&&decide ((ordF l p.2).1<=0),0) else(false,4)
theorem yb6 {p:Rat×Rat} (h1:sz p.1 60) (h2:sz p.2 60) (h:0<p.1\/p.2<0):conF [] p=(false,0):=by
 obtain⟨a1,b1, -⟩:=z3a h1;obtain⟨a2, -,c2⟩:=z3a h2;unfold conF;rw[if_pos ⟨a1,a2⟩];rcases h with h|h
 ·rw[b1 h];rfl
 ·rw[c2 h,show decide ((1:Int)<=0)=false from rfl,Bool.and_false]
theorem yda {l:List (Rat×Nat)} (hl:PosR l) {p:Rat×Rat} (h:Lo (exE l p.1)/\Lo λq=> -exE l p.2 q):conF l p=(true,0)\/conF l p=(false,4):=by
 unfold conF;by_cases e:(ordF l p.1).2=0/\(ordF l p.2).2=0
 ·left
  rw[if_pos e,decide_eq_true (z8w hl h.1 e.1),decide_eq_true (z5u hl h.2 e.2)];rfl
 ·right;rw[if_neg e]
def betR (m n:Nat):Rat×Rat:=if m=1 then(1,1) else(((isq (m*10^(2*n)):Nat):Rat)/((10^n:Nat):Rat),((isq (m*10^(2*n))+1:Nat):Rat)/((10^n:Nat):Rat))
theorem z57 (m n:Nat):0<=(betR m n).1/\(betR m n).1<=(betR m n).2/\(betR m n).1*(betR m n).1<=(m:Rat)/\(m:Rat)<=(betR m n).2*(betR m n).2:=by
 unfold betR;by_cases h:m=1
 ·rw[if_pos h,h];decide+kernel
 ·rw[if_neg h]
  obtain⟨r1,r2⟩:=zv0 (m*10^(2*n));have t0:(0:Rat)<((10^n:Nat):Rat):=by exact_mod_cast Nat.pow_pos (by omega)
  have e:((m*10^(2*n):Nat):Rat)=(m:Rat)*(((10^n:Nat):Rat)*((10^n:Nat):Rat)):=by
   rw[show 2*n=n+n by omega,Nat.pow_add];push_cast;rfl
  have q1:((isq (m*10^(2*n)):Nat):Rat)*((isq (m*10^(2*n)):Nat):Rat)<=(m:Rat)*(((10^n:Nat):Rat)*((10^n:Nat):Rat)):=by rw[<-e];exact_mod_cast r1
  have q2:(m:Rat)*(((10^n:Nat):Rat)*((10^n:Nat):Rat))<((isq (m*10^(2*n))+1:Nat):Rat)*((isq (m*10^(2*n))+1:Nat):Rat):=by rw[<-e];exact_mod_cast r2
  have p0:(0:Rat)<=((isq (m*10^(2*n)):Nat):Rat):=by exact_mod_cast zR _
  have p1:((isq (m*10^(2*n)):Nat):Rat)<=((isq (m*10^(2*n))+1:Nat):Rat):=by exact_mod_cast Nat.le_succ _
  generalize ((isq (m*10^(2*n)):Nat):Rat)=a at*
  generalize ((isq (m*10^(2*n))+1:Nat):Rat)=b at*
  generalize ((10^n:Nat):Rat)=T at*
  have i0:0<T⁻¹ :=Rat.inv_pos.2 t0;have iT:T*T⁻¹ =1:=Rat.mul_inv_cancel T (by grind);dsimp only;rw[Rat.div_def,Rat.div_def];have ii:=Rat.mul_nonneg (Rat.le_of_lt i0) (Rat.le_of_lt i0);have m1:=Rat.mul_le_mul_of_nonneg_right q1 ii;have m2:=Rat.mul_le_mul_of_nonneg_right (Rat.le_of_lt q2) ii;have ee:(m:Rat)*(T*T)*(T⁻¹ *T⁻¹)=(m:Rat):=by
   rw[show(m:Rat)*(T*T)*(T⁻¹ *T⁻¹)=(m:Rat)*((T*T⁻¹)*(T*T⁻¹)) by grind,iT];grind
  rw[ee] at m1 m2;refine⟨Rat.mul_nonneg p0 (Rat.le_of_lt i0),Rat.mul_le_mul_of_nonneg_right p1 (Rat.le_of_lt i0),by grind,by grind⟩
def mulR (c:Rat) (p:Rat×Rat):Rat×Rat:=(if c*p.2<c*p.1 then c*p.2 else c*p.1,if c*p.1<c*p.2 then c*p.2 else c*p.1)
theorem z6b (c:Rat) (p:Rat×Rat):((mulR c p).1<=c*p.1/\(mulR c p).1<=c*p.2)/\(c*p.1<=(mulR c p).2/\c*p.2<=(mulR c p).2):=by
 unfold mulR;dsimp only;constructor<;>split<;>constructor<;>grind
def sumR (n:Nat):List (Rat×Nat)->Rat×Rat->Rat×Rat
 |[],s=>s
 |t::l,s=>sumR n l (s.1+(mulR t.1 (betR t.2 n)).1,s.2+(mulR t.1 (betR t.2 n)).2)
theorem z2f (n:Nat) (t:Rat×Nat) (l:List (Rat×Nat)) (s:Rat×Rat):sumR n (t::l) s=sumR n l (s.1+(mulR t.1 (betR t.2 n)).1,s.2+(mulR t.1 (betR t.2 n)).2):=rfl
def Enc (k:List (Rat×Nat)) (s:Rat×Rat):Prop:=Lo (exE k s.1)/\Lo λq=> -exE k s.2 q
theorem yb7 (n:Nat) (t:Rat×Nat) (k:List (Rat×Nat)) (s:Rat×Rat) (h:Enc k s):Enc (k++[t]) (s.1+(mulR t.1 (betR t.2 n)).1,s.2+(mulR t.1 (betR t.2 n)).2):=by
 obtain⟨b1,b2,b3,b4⟩:=z57 t.2 n;have hm:=z6b t.1 (betR t.2 n);generalize mulR t.1 (betR t.2 n)=M at*
 generalize betR t.2 n=B at*
 exact yb4 h (yb3 (c:=t.1) (m:=t.2) b1 b3 (by grind) b4 hm.1 hm.2)
theorem z6e (n:Nat):∀(l k:List (Rat×Nat)) (s:Rat×Rat),Enc k s->Enc (k++l) (sumR n l s)
 |[],k,s,h=>by rw[List.append_nil];exact h
 |t::l,k,s,h=>by
  have:=z6e n l (k++[t]) _ (yb7 n t k s h);rw[List.append_assoc] at this;rw[z2f];exact this
theorem yd1 {l:List (Rat×Nat)} (hl:PosR l) (n:Nat):conF l (sumR n l (0,0))=(true,0)\/conF l (sumR n l (0,0))=(false,4):=by
 have:=z6e n l [] (0,0) ⟨⟨0,λq=>by unfold exE;rw[zfu];grind⟩,⟨0,λq=>by show _<= -(vZ [] q-(0:Rat)*tn q);rw[zfu];grind⟩⟩;rw[yI] at this;exact yda hl this
end
section
open Go.RowKit Go.Shelf Lib Str Limb
attribute [local go_sem] Oper.semAt_some
theorem zct {W:zA} {A:Nat} {a b:Value} {t:TypeId} (h:W.heap[A]? =some (.cells #[a,b] t (0,0))):W.cell? ⟨A,0,none⟩=some a/\W.cell? ⟨A,1,none⟩=some b:=
 ⟨by rw[zJ h];rfl,by rw[zJ h];rfl⟩
theorem z4t (a b:List UInt8) (n:Int) (hn:decide (0<n)=false)
 (C1:Hid (qK 45 #[St a] (.int .i64 0)))
 (C2:Hid (qK 45 #[St b] (.int .i64 0)))
 (CM:Hid (qK 18 #[St a,St b] (.tuple #[.int .i64 n,.int .i64 0])))
 (w:zA) (HW:Hid (Wd w)):
 qJ 145 #[.agg #[St a,St b]] w (.int .i64 0):=by
 obtain⟨v1,hv1⟩:=zzX (w.alloc (.cells #[St a,St b] 43));obtain⟨b1,A1⟩:=zdn hv1;have s1:v1.heap.size=w.heap.size+1:=by rw[hv1];simp
 obtain⟨v2,hv2⟩:=zzX (v1.alloc (.cells #[St a,St b] 30));obtain⟨b2,A2⟩:=zdn hv2;rw[s1] at A2;have B1:=hid A1;have B2:=hid (zac b2 _ _ _ _ A1);have D2:=hid A2;have E2:=hid (b1.trans (b2.mono b1.size));obtain⟨c0,c1⟩:=zct A1;rw[hv1] at c0 c1;have HV1:=hid hv1.symm;have HV2:=hid hv2.symm;have HN:=hid hn;clear hv1 b1 A1 s1 hv2 b2 A2 hn;go_enter Tryz.func145,Tryz.ntmps145;go_wp21;rw[HV1.out,HV2.out];clear c0 c1 HV1 HV2;obtain⟨c0,c1⟩:=zct B2.out;obtain⟨d0,d1⟩:=zct D2.out;refine wp_loop_rounds 3 ?_;rw[rounds_succ];go_wp21;clear c0 c1 d0 d1;refine zzM (C1.out v2 (HW.out.below E2.out)) λw1 hb=>?_;have E3:=hid (E2.out.trans (hb.mono E2.out.size));have B3:=hid (zac hb _ _ _ _ B2.out);have D3:=hid (zac hb _ _ _ _ D2.out);clear hb E2 B2 D2;obtain⟨d0,d1⟩:=zct D3.out;go_wp21;rw[rounds_succ];go_wp21;clear d0 d1;refine zzM (C2.out w1 (HW.out.below E3.out)) λw2 hb=>?_;have E4:=hid (E3.out.trans (hb.mono E3.out.size));have B4:=hid (zac hb _ _ _ _ B3.out);clear hb E3 B3 D3;obtain⟨c0,c1⟩:=zct B4.out;go_wp21;rw[rounds_succ];go_wp21;clear c0 c1;refine zzM (CM.out w2 (HW.out.below E4.out)) λw3 hb=>?_;have E5:=hid (E4.out.trans (hb.mono E4.out.size));clear hb E4 B4;have hn:=HN.out;go_wp21;go_ret;exact⟨rfl,E5.out⟩
theorem z3x (a b:List UInt8) (n:Int) (hn:decide (0<n)=false)
 (C1:Hid (qK 86 #[St a] (.int .i64 0)))
 (C2:Hid (qK 86 #[St b] (.int .i64 0)))
 (CM:Hid (qK 87 #[St a,St b] (.tuple #[.int .i64 n,.int .i64 0])))
 (w:zA) (HW:Hid (Wd w)):
 qJ 24 #[.agg #[St a,St b]] w (.int .i64 0):=by
 obtain⟨v1,hv1⟩:=zzX (w.alloc (.cells #[St a,St b] 43));obtain⟨b1,A1⟩:=zdn hv1;have B2:=hid A1;have E2:=hid b1;obtain⟨c0,c1⟩:=zct A1;rw[hv1] at c0 c1;have HV1:=hid hv1.symm;have HN:=hid hn;clear hv1 b1 A1 hn;go_enter Tryz.func24,Tryz.ntmps24;go_wp21;rw[HV1.out];clear c0 c1 HV1;refine zzM (C1.out v1 (HW.out.below E2.out)) λw1 hb=>?_;have E3:=hid (E2.out.trans (hb.mono E2.out.size));have B3:=hid (zac hb _ _ _ _ B2.out);clear hb E2 B2;obtain⟨c0,c1⟩:=zct B3.out;go_wp21;clear c0 c1;refine zzM (C2.out w1 (HW.out.below E3.out)) λw2 hb=>?_;have E4:=hid (E3.out.trans (hb.mono E3.out.size));have B4:=hid (zac hb _ _ _ _ B3.out);clear hb E3 B3;obtain⟨c0,c1⟩:=zct B4.out;go_wp21;clear c0 c1;refine zzM (CM.out w2 (HW.out.below E4.out)) λw3 hb=>?_;have E5:=hid (E4.out.trans (hb.mono E4.out.size));clear hb E4 B4;have hn:=HN.out;go_wp21;go_ret;exact⟨rfl,E5.out⟩
structure RgR (p:Rat×Rat) (k:Nat):Prop where
 le:p.1<=p.2
 s1:sz p.1 k
 s2:sz p.2 k
abbrev rgV (p:Rat×Rat):Value:=.agg #[St (numS p.1),St (numS p.2)]
theorem yaq {a b:Rat} (h:a<=b):decide (0<Geo.cmpR a b)=false:=by
 refine decide_eq_false λg=>?_;rcases Geo.zaw a b with⟨_,e⟩|⟨_,e⟩|⟨k,_⟩<;>grind
theorem z7z (p:Rat×Rat) (k:Nat) (hk:0<k) (hk2:k<=140) (h:RgR p k) (w:zA) (hw:Wd w):
 qJ 145 #[rgV p] w (.int .i64 0):=
 z4t _ _ _ (yaq h.le) (hid λW hW=>zfj p.1 (zd0 hk (by omega) h.s1) W hW) (hid λW hW=>zfj p.2 (zd0 hk (by omega) h.s2) W hW)
  (hid λW hW=>zgq p.1 p.2 k k hk hk (by omega) h.s1 h.s2 W hW) w (hid hw)
theorem z6h (p:Rat×Rat) (k:Nat) (hk:0<k) (hk2:k<=140) (h:RgR p k) (w:zA) (hw:Wd w):
 qJ 24 #[rgV p] w (.int .i64 0):=
 z3x _ _ _ (yaq h.le) (hid λW hW=>zgv p.1 (zoo hk (by omega) h.s1) W hW) (hid λW hW=>zgv p.2 (zoo hk (by omega) h.s2) W hW)
  (hid λW hW=>z2a p.1 p.2 k k hk hk (by omega) h.s1 h.s2 W hW) w (hid hw)
def z9r (p:Option Addr) (n:Nat) (q:Nat->Rat×Rat) (W:zA):Prop:=∀i,i<n->∃b off,p=some ⟨b,off,none⟩/\W.cell? ⟨b,off+i*2,none⟩=some (St (numS (q i).1))/\W.cell? ⟨b,off+i*2+1,none⟩=some (St (numS (q i).2))
theorem yar (a b:List UInt8) (w:zA) (K:Hid (∀W:zA,qL w W->qJ 145 #[.agg #[St a,St b]] W (.int .i64 0))):
 zC zF 144 #[.agg #[St a,St b]] w (BolQ w false):=by
 obtain⟨v1,hv1⟩:=zzX (w.alloc (.cells #[St a,St b] 43));obtain⟨b1,A1⟩:=zdn hv1;have E2:=hid b1;obtain⟨c0,c1⟩:=zct A1;rw[hv1] at c0 c1;have HV1:=hid hv1.symm;clear hv1 b1 A1;go_enter Tryz.func144,Tryz.ntmps144;go_wp21;rw[HV1.out];clear c0 c1 HV1;refine zzM (K.out v1 E2.out) λw1 hb=>?_;have E3:=hid (E2.out.trans (hb.mono E2.out.size));clear hb E2;go_wp21;go_ret;exact⟨rfl,E3.out⟩
theorem yas (p:Option Addr) (cap n:Nat) (q:Nat->Rat×Rat) (hl:n<=5000) (C:zA->Prop) (hC:∀W W',C W->qL W W'->C W')
 (F:Hid (∀i,i<n->∀W:zA,C W->zC zF 144 #[rgV (q i)] W (BolQ W false)))
 (w:zA) (HC:Hid (C w)) (HP:Hid (z9r p n q w)):
 qJ 213 #[.slice p n cap,.func (.func 144) #[] #[]] w (.int .i64 (-1)):=by
 have KC:=hid hC;clear hC;go_enter Tryz.func213,Tryz.ntmps213;go_wp2;go_loopw [8] (λi wr=>∃(k:Nat),k<=n/\i=.int .i64 (k:Int)/\Hid (qL w wr))
  (λi _=>n-(zL i).toNat)
 case atStart=>exact⟨0,zR _,rfl,zM _ _⟩
 case round=>
  obtain⟨k,hk,rfl,hB⟩:=hrel;by_cases hlt:k<n
  ·obtain⟨b,off,rfl,c0,c1⟩:=HP.out k hlt
   have t0:=zai hB.out c0;have t1:=zai hB.out c1;have HF:=hid (F.out k hlt wr (KC.out _ _ HC.out hB.out));unfold rgV at HF;clear c0 c1;generalize numS (q k).1=x at*
   generalize numS (q k).2=y at*
   go_wp21;refine zzM HF.out λw2 hb2=>?_;have hB2:=hid (hB.out.trans (hb2.mono hB.out.size));clear hb2 HF;go_wp21;go_roundw
   case rel=>exact⟨k+1,by omega,by go_num,hB2⟩
   case measure=>simp[zL];omega
  ·have hkn:k=n:=by omega
   go_wp21;go_ret;exact⟨rfl,hB.out⟩
theorem yat (p:Option Addr) (cap n:Nat) (w:zA)
 (F:Hid (qJ 213 #[.slice p n cap,.func (.func 144) #[] #[]] w (.int .i64 (-1)))):
 zC zF 143 #[.slice p n cap,.func (.func 144) #[] #[]] w (BolQ w false):=by
 go_enter Tryz.func143,Tryz.ntmps143;go_wp21;refine zzM F.out λw1 hB=>?_;go_wp21;go_ret;exact⟨rfl,hB⟩
theorem z71 (p:Option Addr) (cap n:Nat) (w:zA)
 (F:Hid (zC zF 143 #[.slice p n cap,.func (.func 144) #[] #[]] w (BolQ w false))):
 qJ 73 #[.slice p n cap] w (.int .i64 0):=by
 go_enter Tryz.func73,Tryz.ntmps73;go_wp21;refine zzM F.out λw1 hB=>?_;go_wp21;go_ret;exact⟨rfl,hB⟩
theorem z4g (p:Option Addr) (cap n:Nat) (q:Nat->Rat×Rat) (hl:n<=5000) (k:Nat) (hk:0<k) (hk2:k<=140) (h:∀i,i<n->RgR (q i) k) (w:zA) (hw:Wd w) (hp:z9r p n q w):
 qJ 73 #[.slice p n cap] w (.int .i64 0):=
 z71 p cap n w (hid (yat p cap n w (hid (yas p cap n q hl Wd (λ_ _ h hb=>h.below hb) (hid λi hi W hW=>yar _ _ W (hid λV hV=>z7z (q i) k hk hk2 (h i hi) V (hW.below hV))) w (hid hw) (hid hp)))))
theorem yau (g cap n G:Nat) (X B:Nat->List UInt8) (c:Nat->Int) (t:Nat->Bool) (h1:0<n) (hn:n<=100) (hcap:n+1<=cap) (hB0:B 0=X 0) (hB:∀i,B (i+1)=if t i then X (i+1) else B i)
 (CM:Hid (∀i,i<n->qK 18 #[St (X (i+1)),St (B i)] (.tuple #[.int .i64 (c i),.int .i64 0])))
 (F:Hid (∀i,i<n->∀W:zA,zC zF G #[.int .i64 (c i)] W λe w'=>e=.returned (.bool (t i))/\zB W.heap.size W w'))
 (EG:Hid (∀args w,(callFunc G args).run zF w=.ok (.enter G args) w))
 (w:zA) (HW:Hid (Wd w)) (HP:Hid (∀i,i<n+1->w.cell? ⟨g,i,none⟩=some (St (X i)))):
 qJ 83 #[.slice (some ⟨g,0,none⟩) (n+1) cap,.func (.func G) #[] #[]] w (.tuple #[St (B n),.int .i64 0]):=by
 have c0:=HP.out 0 (by omega);rw[<-hB0] at c0;have HB:=hid hB;have H0:=hid (rfl:B 0=B 0);have D0:=hid (zM w.heap.size w);clear hB0 hB;generalize hb0:B 0=b0 at c0;have hs:¬(n:Int)+1<1:=by omega
 have hs2:¬(cap:Int)<(n:Int)+1:=by omega
 have hs3:¬cap=1:=by omega
 go_enter Tryz.func83,Tryz.ntmps83;go_wp21;clear hs hs2 hs3 c0;go_loopw [6,17] (λv i wr=>∃(k:Nat),k<=n/\v=St (B k)/\i=.int .i64 (k:Int)/\Hid (qL w wr))
  (λ_ i _=>n-(zL i).toNat)
 case atStart=>exact⟨0,zR _,by rw[hb0],rfl,D0⟩
 case round=>
  clear D0 hb0;obtain⟨k,hk,rfl,rfl,D1⟩:=hrel;by_cases hlt:k<n
  ·have c1:=zai D1.out (HP.out (k+1) (by omega))
   have CM1:=hid (CM.out k hlt);have F1:=hid (F.out k hlt);have HB1:=hid (HB.out k);have heg:=EG.out;rw[show k+1=1+k by omega] at c1;have e1:X (k+1)=X (1+k):=by rw[Nat.add_comm]
   rw[e1] at CM1 HB1;clear e1 CM F;generalize X (1+k)=x at*
   generalize hbn:B (k+1)=bn at*
   have HBN:=hid hbn;clear hbn;generalize B k=b at*
   generalize c k=cc at*
   generalize t k=tt at*
   go_wp21;refine zzM (CM1.out wr (HW.out.below D1.out)) λw1 hb=>?_;have D2:=hid (D1.out.trans (hb.mono D1.out.size));clear hb D1 CM1 c1;go_wp21;refine zzM (F1.out w1) λw2 hb=>?_;have D3:=hid (D2.out.trans (hb.mono D2.out.size));clear hb D2 F1 heg;cases tt
   ·go_wp21
    go_roundw
    case rel=>exact⟨k+1,by omega,by rw[HBN.out,HB1.out];rfl,by go_num,D3⟩
    case measure=>simp[zL];omega
   ·go_wp21
    go_roundw
    case rel=>exact⟨k+1,by omega,by rw[HBN.out,HB1.out];rfl,by go_num,D3⟩
    case measure=>simp[zL];omega
  ·have hkn:k=n:=by omega
   subst hkn;generalize hbk:B k=b;go_wp21;go_ret2;exact⟨by rw[hbk];rfl,D1.out⟩
theorem z73 (x1 x2 y1 y2 z1 z2:List UInt8) (w:zA)
 (CK:Hid (∀(W:zA) (A:Nat),qL w W->W.heap[A]? =some (.cells #[St x1,St x2,St y1,St y2] 43 (0,0))->qJ 73 #[.slice (some ⟨A,0,none⟩) 2 2] W (.int .i64 0)))
 (S1:Hid (∀W:zA,qL w W->qJ 10 #[St x1,St y1] W (.tuple #[St z1,.int .i64 0])))
 (S2:Hid (∀W:zA,qL w W->qJ 10 #[St x2,St y2] W (.tuple #[St z2,.int .i64 0]))):
 qJ 23 #[.agg #[St x1,St x2],.agg #[St y1,St y2]] w (.tuple #[.agg #[St z1,St z2],.int .i64 0]):=by
 obtain⟨v1,hv1⟩:=zzX (w.alloc (.cells #[St x1,St x2] 43));obtain⟨b1,A1⟩:=zdn hv1;have s1:v1.heap.size=w.heap.size+1:=by rw[hv1];simp
 obtain⟨v2,hv2⟩:=zzX (v1.alloc (.cells #[St y1,St y2] 43));obtain⟨b2',A2⟩:=zdn hv2;have s2:v2.heap.size=w.heap.size+2:=by rw[hv2];simp[s1]
 obtain⟨v3,hv3⟩:=zzX (v2.alloc (.cells #[.string ⟨#[]⟩,.string ⟨#[]⟩] 43));obtain⟨b3,A3⟩:=zdn hv3;have s3:v3.heap.size=w.heap.size+3:=by rw[hv3];simp[s2]
 obtain⟨v4,hv4⟩:=zzX (v3.alloc (.cells #[St x1,St x2,St y1,St y2] 43));obtain⟨b4,A4⟩:=zdn hv4;rw[s1] at A2;rw[s2] at A3;rw[s3] at A4;have K1:=zac b2' _ _ _ _ A1;have K1':=zac b3 _ _ _ _ K1;have K2:=zac b3 _ _ _ _ A2;have E2:=b1.trans (b2'.mono b1.size);have E3:=E2.trans (b3.mono E2.size);have E4:=E3.trans (b4.mono E3.size);obtain⟨c0,c1'⟩:=zct K1';obtain⟨d0,d1⟩:=zct K2;have D4:=hid E4;have P1:=hid (zac b4 _ _ _ _ K1');have P2:=hid (zac b4 _ _ _ _ K2);have P3:=hid (zac b4 _ _ _ _ A3);have HC:=hid (CK.out v4 _ E4 A4);rw[hv3,hv2,hv1] at c0 c1' d0 d1;have HV1:=hid hv1.symm;have HV2:=hid hv2.symm;have HV3:=hid hv3.symm;have HV4:=hid hv4.symm;clear hv1 hv2 hv3 hv4 b1 b2' b3 b4 A1 A2 A3 A4 s1 s2 s3 K1 K1' K2 E2 E3 E4 CK;go_enter Tryz.func23,Tryz.ntmps23;go_wp21;rw[HV1.out,HV2.out,HV3.out,HV4.out];clear c0 c1' d0 d1 HV1 HV2 HV3 HV4;refine zzM HC.out λw1 hb=>?_;have D5:=hid (D4.out.trans (hb.mono D4.out.size));have Q1:=hid (zac hb _ _ _ _ P1.out);have Q2:=hid (zac hb _ _ _ _ P2.out);have Q3:=hid (zac hb _ _ _ _ P3.out);clear hb D4 P1 P2 P3 HC;obtain⟨c0,c1'⟩:=zct Q1.out;obtain⟨d0,d1⟩:=zct Q2.out;go_wp21;clear c0 c1' d0 d1;refine zzM (S1.out w1 D5.out) λw2 hb=>?_;have D6:=hid (D5.out.trans (hb.mono D5.out.size));have P1:=hid (zac hb _ _ _ _ Q1.out);have P2:=hid (zac hb _ _ _ _ Q2.out);have P3:=hid (zac hb _ _ _ _ Q3.out);clear hb D5 Q1 Q2 Q3 S1;obtain⟨c0,c1'⟩:=zct P1.out;obtain⟨d0,d1⟩:=zct P2.out;go_wp21;clear c0 c1' d0 d1 P1 P2;refine zzM (S2.out w2 D6.out) λw3 hb=>?_
 have D7:=hid (D6.out.trans (hb.mono D6.out.size));have Q3:=hid (zac hb _ _ _ _ P3.out);clear hb D6 P3 S2;obtain⟨c0,c1'⟩:=zct Q3.out;have f0:=Go.Joins.unfrozen_of_block Q3.out 0;have f1:=Go.Joins.unfrozen_of_block Q3.out 1;go_wp21;have hB7:=D7.out;refine bodyPost_ret (v:=.tuple #[.agg #[St z1,St z2],.int .i64 0]) (by simp[results,Tryz.results23,go_sem,c0,c1']) rfl ⟨rfl,?_⟩
 repeat(first|exact hB7|refine Below.setCell ?_ (by dsimp only;omega) _)
theorem yd2:(Tryz.prog.info? 30).map (λi=>(i.zero,i.size,i.bytes))=some (some (St []),1,16):=by kernel_rfl
theorem z6i {w:zA} {base:Nat} {t:TypeId} {s:Nat} {v:Value} {n:Nat} {xs:List Value} (h:w.ownsRow base t s v n xs) (hn:0<n):
 ∃g c,v=.slice (some ⟨g,0,none⟩) n c/\n<=c/\∀i u,xs[i]? =some u->w.cell? ⟨g,i,none⟩=some u:=by
 rcases h.2 with⟨_,e⟩|⟨g,cp,cur,e,hg1,hg2,hc,_,hcs,htk⟩
 ·omega
 ·refine⟨g,cp,e,hc,λi u hu=>?_⟩
  rw[zJ hg2,<-Array.getElem?_toList];rw[<-htk,List.getElem?_take] at hu;split at hu
  ·exact hu
  ·cases hu
theorem z74 (x0 x1 y0 y1 z1 z2:List UInt8) (P:Nat->List UInt8) (w:zA)
 (CK:Hid (∀(W:zA) (A:Nat),qL w W->W.heap[A]? =some (.cells #[St x0,St x1,St y0,St y1] 43 (0,0))->qJ 73 #[.slice (some ⟨A,0,none⟩) 2 2] W (.int .i64 0)))
 (MU:Hid (∀k j,k<2->j<2->∀W:zA,qL w W->qJ 9 #[St (if k=0 then x0 else x1),St (if j=0 then y0 else y1)] W (.tuple #[St (P (2*k+j)),.int .i64 0])))
 (F1:Hid (∀(W:zA) (g c:Nat),qL w W->4<=c->(∀i,i<4->W.cell? ⟨g,i,none⟩=some (St (P i)))->qJ 83 #[.slice (some ⟨g,0,none⟩) 4 c,.func (.func 84) #[] #[]] W (.tuple #[St z1,.int .i64 0])))
 (F2:Hid (∀(W:zA) (g c:Nat),qL w W->4<=c->(∀i,i<4->W.cell? ⟨g,i,none⟩=some (St (P i)))->qJ 83 #[.slice (some ⟨g,0,none⟩) 4 c,.func (.func 85) #[] #[]] W (.tuple #[St z2,.int .i64 0]))):
 qJ 22 #[.agg #[St x0,St x1],.agg #[St y0,St y1]] w (.tuple #[.agg #[St z1,St z2],.int .i64 0]):=by
 obtain⟨i0,hi,hz0,hz1,hz2⟩:=info_parts yd2;obtain⟨v1,hv1⟩:=zzX (w.alloc (.cells #[St x0,St x1] 43));obtain⟨b1,A1⟩:=zdn hv1;have s1:v1.heap.size=w.heap.size+1:=by rw[hv1];simp
 obtain⟨v2,hv2⟩:=zzX (v1.alloc (.cells #[St y0,St y1] 43));obtain⟨b2,A2⟩:=zdn hv2;have s2:v2.heap.size=w.heap.size+2:=by rw[hv2];simp[s1]
 obtain⟨v3,hv3⟩:=zzX (v2.alloc (.cells #[.string ⟨#[]⟩,.string ⟨#[]⟩] 43));obtain⟨b3,A3⟩:=zdn hv3;have s3:v3.heap.size=w.heap.size+3:=by rw[hv3];simp[s2]
 obtain⟨v4,hv4⟩:=zzX (v3.alloc (.cells #[St x0,St x1,St y0,St y1] 43));obtain⟨b4,A4⟩:=zdn hv4;rw[s1] at A2;rw[s2] at A3;rw[s3] at A4;have K1:=zac b2 _ _ _ _ A1;have K1':=zac b3 _ _ _ _ K1;have K2:=zac b3 _ _ _ _ A2;have E2:=b1.trans (b2.mono b1.size);have E3:=E2.trans (b3.mono E2.size);have E4:=E3.trans (b4.mono E3.size);obtain⟨c0,c1⟩:=zct K1';obtain⟨d0,d1⟩:=zct K2;have D4:=hid E4;have P1:=hid (zac b4 _ _ _ _ K1');have P2:=hid (zac b4 _ _ _ _ K2);have P3:=hid (zac b4 _ _ _ _ A3);have HC:=hid (CK.out v4 _ E4 A4);rw[hv3,hv2,hv1] at c0 c1 d0 d1;have HV1:=hid hv1.symm;have HV2:=hid hv2.symm;have HV3:=hid hv3.symm;have HV4:=hid hv4.symm;clear hv1 hv2 hv3 hv4 b1 b2 b3 b4 A1 A2 A3 A4 s1 s2 s3 K1 K1' K2 E2 E3 E4 CK;go_enter Tryz.func22,Tryz.ntmps22;go_wp21;rw[HV1.out,HV2.out,HV3.out,HV4.out];clear c0 c1 d0 d1 HV1 HV2 HV3 HV4;refine zzM HC.out λw1 hb=>?_;have D5:=hid (D4.out.trans (hb.mono D4.out.size));have Q1:=hid (zac hb _ _ _ _ P1.out);have Q2:=hid (zac hb _ _ _ _ P2.out);have Q3:=hid (zac hb _ _ _ _ P3.out);clear hb D4 P1 P2 P3 HC;obtain⟨c0,c1⟩:=zct Q1.out;obtain⟨v5,hv5⟩:=zzX (w1.alloc (.cells #[St x0,St x1] 30));obtain⟨b5,A5⟩:=zdn hv5;have D6:=hid (D5.out.trans (b5.mono D5.out.size));have R2:=hid (zac b5 _ _ _ _ Q2.out);have R3:=hid (zac b5 _ _ _ _ Q3.out);have HA:=hid A5;have HV5:=hid hv5.symm;have O0:=hid (show v5.ownsRow v5.heap.size 30 1 (.slice none 0 0) 0 (((List.range 0).map P).map St) from World.ownsRow_nil _ _ _ _);have DB:=hid (zM v5.heap.size v5)
 clear hv5 b5 A5 Q1 Q2 Q3 D5;go_wp21;rw[HV5.out];clear c0 c1 HV5;go_loopw [7,31] (λv i wr=>∃(k:Nat) (q:Option Addr) (d:Nat),k<=2/\i=.int .i64 (k:Int)/\v=.slice q (2*k) d/\Hid (qL v5 wr)/\Hid (wr.ownsRow v5.heap.size 30 1 (.slice q (2*k) d) (2*k) (((List.range (2*k)).map P).map St)))
  (λ_ i _=>2-(zL i).toNat)
 case atStart=>exact⟨0,none,0,by omega,rfl,rfl,DB,O0⟩
 case round=>
  clear DB O0;obtain⟨k,q,d,hk,rfl,rfl,D1,O1⟩:=hrel;by_cases hlt:k<2
  ·have e0:wr.cell? ⟨w1.heap.size,k,none⟩=some (St (if k=0 then x0 else x1)):=by
    obtain⟨c0,c1⟩:=zct HA.out;rcases(show k=0\/k=1 by omega) with rfl|rfl
    ·exact zai D1.out c0
    ·exact zai D1.out c1
   obtain⟨d0,d1⟩:=zct (zac D1.out _ _ _ _ R2.out);have MK:=hid λj (hj:j<2)=>MU.out k j hlt hj;obtain⟨v6,hv6⟩:=zzX (wr.alloc (.cells #[St y0,St y1] 30));obtain⟨b6,A6⟩:=zdn hv6;have D2:=hid (D1.out.trans (b6.mono D1.out.size));have O2:=hid (zcj (zac b6) O1.out);have NE:=hid (show ∀g,(Value.slice q (2*k) d).ownBlock=some g->g≠wr.heap.size from λg hg=>by have:=(O1.out.lt g hg).2;omega);have YB:=hid A6;have LT:=hid (show v5.heap.size<=wr.heap.size from D1.out.size);have HV6:=hid hv6.symm;clear hv6 b6 A6 O1 MU;generalize (if k=0 then x0 else x1)=x at*
   have hkd:decide ((k:Int)<2)=true:=decide_eq_true (by omega);go_wp21;rw[HV6.out];clear e0 d0 d1 HV6 D1;have HLT:=hid hlt;clear hlt hkd;generalize wr.heap.size=yb at*
   go_loopw [7,41] (λv i wi=>∃(j:Nat) (q:Option Addr) (d:Nat),j<=2/\i=.int .i64 (j:Int)/\v=.slice q (2*k+j) d/\Hid (qL v5 wi)/\Hid (wi.ownsRow v5.heap.size 30 1 (.slice q (2*k+j) d) (2*k+j) (((List.range (2*k+j)).map P).map St))/\Hid (∀g,(Value.slice q (2*k+j) d).ownBlock=some g->g≠yb)/\Hid (wi.heap[yb]? =some (.cells #[St y0,St y1] 30 (0,0))))
    (λ_ i _=>2-(zL i).toNat)
   case atStart=>exact⟨0,q,d,by omega,rfl,rfl,D2,O2,NE,YB⟩
   case round=>
    clear D2 O2 NE YB;obtain⟨j,q',d',hj,rfl,rfl,D3,O3,NE,YB⟩:=hrel;by_cases hlj:j<2
    ·have e1:wr.cell? ⟨yb,j,none⟩=some (St (if j=0 then y0 else y1)):=by
      obtain⟨c0,c1⟩:=zct YB.out;rcases(show j=0\/j=1 by omega) with rfl|rfl
      ·exact c0
      ·exact c1
     have M1:=hid (MK.out j hlj);have HS:=hid (show((List.range (2*k+j+1)).map P).map St=((List.range (2*k+j)).map P).map St++[St (P (2*k+j))] by rw[List.range_succ];simp);generalize (if j=0 then y0 else y1)=y at*
     generalize hp:P (2*k+j)=p at*
     clear hp;go_wp21;refine zzM (M1.out wr (D6.out.trans (D3.out.mono D6.out.size))) λw2 hb=>?_;have D4:=hid (D3.out.trans (hb.mono D3.out.size));have O4:=hid (zcj (zac hb) O3.out);have YB2:=hid (zac hb _ _ _ _ YB.out);clear hb D3 O3 YB M1 e1;go_wp2_with (at_builtin;refine wpList_append_own_at _ rfl _ _ 120 rfl v5.heap.size 30 i0 (St []) 1 16 Tryz.underlying120 hi hz0 hz1 hz2 rfl (by decide) _ _ _ rfl (O4.out.alloc _) ⟨w2.heap.size,0,none⟩ 1 1 [St p] rfl rfl (zep _ _ _) (zyg _) (by unfold maxLen;omega) (by omega) (by have:=D4.out.size;simp;omega) (λv' w' hown' hgrow _ hob=>?_));obtain⟨g',c',rfl, -, -⟩:=z6i hown' (by omega);have yl:yb<w2.heap.size:=(Array.getElem?_eq_some_iff.1 YB2.out).1;have F1':Hid (qL v5 w'):=hid ((D4.out.alloc D4.out.size _).grown hgrow (by have:=D4.out.size;simp;omega) (λq e=>(O4.out.lt q e).1));have G1:Hid (w'.ownsRow v5.heap.size 30 1 (.slice (some ⟨g',0,none⟩) (2*k+(j+1)) c') (2*k+(j+1)) (((List.range (2*k+(j+1))).map P).map St)):=hid (by rw[show 2*k+(j+1)=2*k+j+1 by omega,HS.out];exact hown');have YB3:Hid (w'.heap[yb]? =some (.cells #[St y0,St y1] 30 (0,0))):=hid (by
      rw[hgrow.block yb (by simp;omega) (λe=>NE.out yb e.symm rfl)];exact zac ((zM _ w2).alloc (zN _) _) _ _ _ _ YB2.out)
     have NE3:Hid (∀g,(Value.slice (some ⟨g',0,none⟩) (2*k+(j+1)) c').ownBlock=some g->g≠yb):=hid λg hg=>by
      rcases hob with h|h
      ·exact NE.out g (h.symm.trans hg)
      ·have e:some g'=some (w2.heap.size+1):=by simpa [Value.ownBlock] using h
       injection e with e;have e2:some g'=some g:=hg;injection e2 with e2;omega
     clear hgrow hown' D4 O4 YB2 NE hob yl;go_roundw
     case rel=>exact⟨j+1,some ⟨g',0,none⟩,c',by omega,by go_num,rfl,F1',G1,NE3,YB3⟩
     case measure=>simp[zL];omega
    ·have hjn:j=2:=by omega
     subst hjn;clear NE YB MK;go_wp21;have hlt:=HLT.out;go_roundw
     case rel=>exact⟨k+1,q',d',by omega,by go_num,rfl,D3,O3⟩
     case measure=>simp[zL];omega
  ·have hkn:k=2:=by omega
   subst hkn;obtain⟨g,c,e,hc,hx⟩:=z6i O1.out (by omega);injection e with e e2 e3;subst e;subst e3;have DA:=hid (D6.out.trans (D1.out.mono D6.out.size));have hx4:∀i,i<4->wr.cell? ⟨g,i,none⟩=some (St (P i)):=λi hi4=>hx i _ (by
    match i,hi4 with
    |0,_|1,_|2,_|3,_=>rfl)
   have HX:=hid hx4;have S3:=hid (zac D1.out _ _ _ _ R3.out);have G1:=hid (F1.out wr g d DA.out hc hx4);have HC4:=hid hc;clear hx hx4 O1 MU D1 R3 F1 hc e2 D6 R2 HA;go_wp21;refine zzM G1.out λw2 hb=>?_;have DB:=hid (DA.out.trans (hb.mono DA.out.size));have S4:=hid (zac hb _ _ _ _ S3.out);have G2:=hid (F2.out w2 g d DB.out HC4.out λi hi4=>zai hb (HX.out i hi4));clear hb DA S3 G1 F2 HX HC4;go_wp21;refine zzM G2.out λw3 hb=>?_;have DC:=hid (DB.out.trans (hb.mono DB.out.size));have S5:=hid (zac hb _ _ _ _ S4.out);clear hb DB S4 G2;obtain⟨c0,c1⟩:=zct S5.out;have f0:=Go.Joins.unfrozen_of_block S5.out 0;have f1:=Go.Joins.unfrozen_of_block S5.out 1;go_wp21;have hB7:=DC.out;refine bodyPost_ret (v:=.tuple #[.agg #[St z1,St z2],.int .i64 0]) (by simp[results,Tryz.results22,go_sem,c0,c1]) rfl ⟨rfl,?_⟩
   repeat(first|exact hB7|refine Below.setCell ?_ (by dsimp only;omega) _)
theorem yav (z:Int) (w:zA):qJ 84 #[.int .i64 z] w (.bool (decide (z<0))):=by
 go_enter Tryz.func84,Tryz.ntmps84;go_wp21;go_ret;exact⟨rfl,zM _ _⟩
theorem yaw (z:Int) (w:zA):qJ 85 #[.int .i64 z] w (.bool (decide (0<z))):=by
 go_enter Tryz.func85,Tryz.ntmps85;go_wp21;go_ret;exact⟨rfl,zM _ _⟩
theorem yax (z:Int) (w:zA):qJ 141 #[.int .i64 z] w (.bool (decide (0<z))):=by
 go_enter Tryz.func141,Tryz.ntmps141;go_wp21;go_ret;exact⟨rfl,zM _ _⟩
theorem yay (z:Int) (w:zA):qJ 142 #[.int .i64 z] w (.bool (decide (z<0))):=by
 go_enter Tryz.func142,Tryz.ntmps142;go_wp21;go_ret;exact⟨rfl,zM _ _⟩
def zkd (dec:Int->Bool) (r:Nat->Rat):Nat->Rat
 |0=>r 0
 |i+1=>if dec (Geo.cmpR (r (i+1)) (zkd dec r i)) then r (i+1) else zkd dec r i
theorem z6k {dec:Int->Bool} {r:Nat->Rat} {k:Nat} (h:∀i,sz (r i) k):∀i,sz (zkd dec r i) k
 |0=>h 0
 |i+1=>by
  unfold zkd;split
  ·exact h _
  ·exact z6k h i
theorem z3y (g cap n G:Nat) (r:Nat->Rat) (dec:Int->Bool) (k:Nat) (hk:0<k) (hk2:k<=140) (h:∀i,sz (r i) k) (h1:0<n) (hn:n<=100) (hcap:n+1<=cap)
 (F:∀(z:Int) (W:zA),zC zF G #[.int .i64 z] W λe w'=>e=.returned (.bool (dec z))/\zB W.heap.size W w')
 (EG:∀args w,(callFunc G args).run zF w=.ok (.enter G args) w)
 (w:zA) (hw:Wd w) (HP:∀i,i<n+1->w.cell? ⟨g,i,none⟩=some (St (numS (r i)))):
 qJ 83 #[.slice (some ⟨g,0,none⟩) (n+1) cap,.func (.func G) #[] #[]] w (.tuple #[St (numS (zkd dec r n)),.int .i64 0]):=
 yau g cap n G (λi=>numS (r i)) (λi=>numS (zkd dec r i)) (λi=>Geo.cmpR (r (i+1)) (zkd dec r i)) (λi=>dec (Geo.cmpR (r (i+1)) (zkd dec r i))) h1 hn hcap rfl (λi=>by
     show numS (if _ then _ else _)=_;split<;>rfl)
  (hid λi _ W hW=>zgq _ _ k k hk hk (by omega) (h (i+1)) (z6k h i) W hW) (hid λi _ W=>F _ W) (hid EG) w (hid hw) (hid HP)
theorem yaz (a b:Rat):decide (Geo.cmpR a b<0)=decide (a<b):=by
 refine decide_eq_decide.2 ?_;rcases Geo.zaw a b with⟨h,e⟩|⟨h,e⟩|⟨h,e⟩<;>grind
theorem z6o (a b:Rat):decide (0<Geo.cmpR a b)=decide (b<a):=by
 refine decide_eq_decide.2 ?_;rcases Geo.zaw a b with⟨h,e⟩|⟨h,e⟩|⟨h,e⟩<;>grind
theorem ydb {W:zA} {A:Nat} {p q:Rat×Rat} (h:W.heap[A]? =some (.cells #[St (numS p.1),St (numS p.2),St (numS q.1),St (numS q.2)] 43 (0,0))):z9r (some ⟨A,0,none⟩) 2 (λi=>if i=0 then p else q) W:=λi hi=>by
 refine⟨A,0,rfl,?_,?_⟩<;>(rw[zJ h];rcases(show i=0\/i=1 by omega) with rfl|rfl<;>rfl)
theorem z4h {W:zA} {A:Nat} {p q:Rat×Rat} {k:Nat} (hk:0<k) (hk2:k<=140) (hp:RgR p k) (hq:RgR q k) (hw:Wd W) (h:W.heap[A]? =some (.cells #[St (numS p.1),St (numS p.2),St (numS q.1),St (numS q.2)] 43 (0,0))):
 qJ 73 #[.slice (some ⟨A,0,none⟩) 2 2] W (.int .i64 0):=
 z4g _ 2 2 _ (by omega) k hk hk2 (λi hi=>by rcases(show i=0\/i=1 by omega) with rfl|rfl<;>assumption) W hw (ydb h)
theorem ya0 (p q:Rat×Rat) (k:Nat) (hk:0<k) (hk2:k<=140) (hp:RgR p k) (hq:RgR q k) (w:zA) (hw:Wd w):
 qJ 23 #[rgV p,rgV q] w (.tuple #[rgV (p.1+q.1,p.2+q.2),.int .i64 0]):=
 z73 _ _ _ _ _ _ w (hid λW A hW hA=>z4h hk hk2 hp hq (hw.below hW) hA) (hid λW hW=>zje _ _ k k hk hk (by omega) hp.s1 hq.s1 W (hw.below hW)) (hid λW hW=>zje _ _ k k hk hk (by omega) hp.s2 hq.s2 W (hw.below hW))
theorem ya3 (c:Rat) (p:Rat×Rat) (k:Nat) (hk:0<k) (hk2:k+k<=140) (hc:sz c k) (hp:RgR p k) (w:zA) (hw:Wd w):
 qJ 22 #[rgV (c,c),rgV p] w (.tuple #[rgV (mulR c p),.int .i64 0]):=by
 let r:Nat->Rat:=λi=>c*(if i%2=0 then p.1 else p.2);have hr:∀i,sz (r i) (k+k):=λi=>by
  show sz (c*(if i%2=0 then p.1 else p.2)) _;split
  ·exact zca hc hp.s1
  ·exact zca hc hp.s2
 have e1:zkd (λz=>decide (z<0)) r 3=(mulR c p).1:=by
  simp only[zkd,yaz,r,mulR];simp;grind
 have e2:zkd (λz=>decide (0<z)) r 3=(mulR c p).2:=by
  simp only[zkd,z6o,r,mulR];simp;grind
 have f1:=λ(W:zA) (g d:Nat) (hW:qL w W) (hd:4<=d) hx=>z3y g d 3 84 r (λz=>decide (z<0)) (k+k) (by omega) hk2 hr (by omega) (by omega) hd yav (enters_of Tryz.func84 (by kernel_rfl) rfl) W (hw.below hW) hx;have f2:=λ(W:zA) (g d:Nat) (hW:qL w W) (hd:4<=d) hx=>z3y g d 3 85 r (λz=>decide (0<z)) (k+k) (by omega) hk2 hr (by omega) (by omega) hd yaw (enters_of Tryz.func85 (by kernel_rfl) rfl) W (hw.below hW) hx;rw[e1] at f1;rw[e2] at f2;refine z74 _ _ _ _ _ _ (λi=>numS (r i)) w (hid λW A hW hA=>z4h hk (by omega) (p:=(c,c)) ⟨Rat.le_refl,hc,hc⟩ hp (hw.below hW) hA) (hid λi j hi hj W hW=>?_) (hid f1) (hid f2);have:=zjf c (if j=0 then p.1 else p.2) k k hk hk (by omega) hc (by split;exact hp.s1;exact hp.s2) W (hw.below hW);have e:r (2*i+j)=c*(if j=0 then p.1 else p.2):=by
  show c*(if(2*i+j)%2=0 then p.1 else p.2)=_;rcases(show j=0\/j=1 by omega) with rfl|rfl
  ·rw[if_pos (by omega),if_pos rfl]
  ·rw[if_neg (by omega),if_neg (by omega)]
 rw[e,show St (if i=0 then numS c else numS c)=St (numS c) by split<;>rfl,show St (if j=0 then numS p.1 else numS p.2)=St (numS (if j=0 then p.1 else p.2)) by split<;>rfl];exact this
theorem ya4 (x0 x1 y0 y1 z1 z2:List UInt8) (n:Int) (nb:Bool) (hn:decide (0<n)=nb) (w:zA) (HW:Hid (Wd w))
 (F1:Hid (∀(W:zA) (g:Nat),Wd W->W.heap[g]? =some (.cells #[St x0,St y0] 30 (0,0))->qJ 83 #[.slice (some ⟨g,0,none⟩) 2 2,.func (.func 141) #[] #[]] W (.tuple #[St z1,.int .i64 0])))
 (F2:Hid (∀(W:zA) (g:Nat),Wd W->W.heap[g]? =some (.cells #[St x1,St y1] 30 (0,0))->qJ 83 #[.slice (some ⟨g,0,none⟩) 2 2,.func (.func 142) #[] #[]] W (.tuple #[St z2,.int .i64 0])))
 (CM:Hid (qK 18 #[St z1,St z2] (.tuple #[.int .i64 n,.int .i64 0]))):
 zC zF 72 #[.agg #[St x0,St x1],.agg #[St y0,St y1]] w λe w'=>∃a b,e=.returned (.tuple #[.agg #[St a,St b],.bool (!nb),.int .i64 0])/\zB w.heap.size w w':=by
 obtain⟨v1,hv1⟩:=zzX (w.alloc (.cells #[St x0,St x1] 43));obtain⟨b1,A1⟩:=zdn hv1;have s1:v1.heap.size=w.heap.size+1:=by rw[hv1];simp
 obtain⟨v2,hv2⟩:=zzX (v1.alloc (.cells #[St y0,St y1] 43));obtain⟨b2,A2⟩:=zdn hv2;have s2:v2.heap.size=w.heap.size+2:=by rw[hv2];simp[s1]
 obtain⟨v3,hv3⟩:=zzX (v2.alloc (.cells #[.string ⟨#[]⟩,.string ⟨#[]⟩] 43));obtain⟨b3,A3⟩:=zdn hv3;have s3:v3.heap.size=w.heap.size+3:=by rw[hv3];simp[s2]
 obtain⟨v4,hv4⟩:=zzX (v3.alloc (.cells #[St x0,St y0] 30));obtain⟨b4,A4⟩:=zdn hv4;rw[s1] at A2;rw[s2] at A3;rw[s3] at A4;have K1:=zac b2 _ _ _ _ A1;have K1':=zac b3 _ _ _ _ K1;have K2:=zac b3 _ _ _ _ A2;have E2:=b1.trans (b2.mono b1.size);have E3:=E2.trans (b3.mono E2.size);have E4:=E3.trans (b4.mono E3.size);obtain⟨c0,c1⟩:=zct K1';obtain⟨d0,d1⟩:=zct K2;have D4:=hid E4;have P1:=hid (zac b4 _ _ _ _ K1');have P2:=hid (zac b4 _ _ _ _ K2);have P3:=hid (zac b4 _ _ _ _ A3);have HC:=hid (F1.out v4 _ (HW.out.below E4) A4);rw[hv3,hv2,hv1] at c0 c1 d0 d1;have HV1:=hid hv1.symm;have HV2:=hid hv2.symm;have HV3:=hid hv3.symm;have HV4:=hid hv4.symm;have HN:=hid hn;clear hv1 hv2 hv3 hv4 b1 b2 b3 b4 A1 A2 A3 A4 s1 s2 s3 K1 K1' K2 E2 E3 E4 F1 hn;go_enter Tryz.func72,Tryz.ntmps72;go_wp21;rw[HV1.out,HV2.out,HV3.out,HV4.out];clear c0 c1 d0 d1 HV1 HV2 HV3 HV4;refine zzM HC.out λw1 hb=>?_;have D5:=hid (D4.out.trans (hb.mono D4.out.size));have Q1:=hid (zac hb _ _ _ _ P1.out);have Q2:=hid (zac hb _ _ _ _ P2.out);have Q3:=hid (zac hb _ _ _ _ P3.out);clear hb D4 P1 P2 P3 HC;obtain⟨c0,c1⟩:=zct Q1.out;obtain⟨d0,d1⟩:=zct Q2.out;obtain⟨v5,hv5⟩:=zzX (w1.alloc (.cells #[St x1,St y1] 30));obtain⟨b5,A5⟩:=zdn hv5;have D6:=hid (D5.out.trans (b5.mono D5.out.size));have R3:=hid (zac b5 _ _ _ _ Q3.out);have HC:=hid (F2.out v5 _ (HW.out.below D6.out) A5);have HV5:=hid hv5.symm;clear hv5 b5 A5 Q1 Q2 Q3 D5 F2;go_wp21;rw[HV5.out];clear c0 c1 d0 d1 HV5;refine zzM HC.out λw2 hb=>?_
 have D7:=hid (D6.out.trans (hb.mono D6.out.size));have S3:=hid (zac hb _ _ _ _ R3.out);clear hb D6 R3 HC;go_wp21;refine zzM (CM.out w2 (HW.out.below D7.out)) λw3 hb=>?_;have D8:=hid (D7.out.trans (hb.mono D7.out.size));have T3:=hid (zac hb _ _ _ _ S3.out);clear hb D7 S3 CM;have hn:=HN.out;have c0:w3.cell? ⟨w.heap.size+2,0,none⟩=some (.string ⟨#[]⟩):=(zct T3.out).1;have c1:w3.cell? ⟨w.heap.size+2,1,none⟩=some (.string ⟨#[]⟩):=(zct T3.out).2;have f0:=Go.Joins.unfrozen_of_block T3.out 0;have f1:=Go.Joins.unfrozen_of_block T3.out 1;cases nb
 ·go_wp21
  have hB7:=D8.out;refine bodyPost_ret (v:=.tuple #[.agg #[St z1,St z2],.bool true,.int .i64 0]) (by simp[results,Tryz.results72,go_sem,c0,c1]) rfl ⟨z1,z2,rfl,?_⟩
  repeat(first|exact hB7|refine Below.setCell ?_ (by dsimp only;omega) _)
 ·go_wp21
  have hB7:=D8.out;refine bodyPost_ret (v:=.tuple #[.agg #[St [],St []],.bool false,.int .i64 0]) (by simp[results,Tryz.results72,go_sem,c0,c1]) rfl ⟨[],[],rfl,?_⟩
  repeat(first|exact hB7|refine Below.setCell ?_ (by dsimp only;omega) _)
theorem z9s (p:Rat×Rat) (k:Nat) (hk:0<k) (hk2:k<=140) (hp:RgR p k) (w:zA) (hw:Wd w):
 zC zF 72 #[rgV p,rgV (0,0)] w λe w'=>∃a b,e=.returned (.tuple #[.agg #[St a,St b],.bool (!decide (0<p.1\/p.2<0)),.int .i64 0])/\zB w.heap.size w w':=by
 have z0:=zd2 k hk;have fo:=λ(a:Rat) (G:Nat) (dec:Int->Bool) (ha:sz a k) F EG (W:zA) (g:Nat) (hW:Wd W) (h:W.heap[g]? =some (.cells #[St (numS a),St (numS 0)] 30 (0,0)))=>
  z3y g 2 1 G (λi=>if i=0 then a else 0) dec k hk hk2 (λi=>by split;exact ha;exact z0) (by omega) (by omega) (by omega) F EG W hW (λi hi=>by
   obtain⟨c0,c1⟩:=zct h;rcases(show i=0\/i=1 by omega) with rfl|rfl
   ·exact c0
   ·exact c1)
 have e1:zkd (λz=>decide (0<z)) (λi=>if i=0 then p.1 else 0) 1=if p.1<0 then 0 else p.1:=by
  simp only[zkd,z6o];simp
 have e2:zkd (λz=>decide (z<0)) (λi=>if i=0 then p.2 else 0) 1=if 0<p.2 then 0 else p.2:=by
  simp only[zkd,yaz];simp
 have f1:=fo p.1 141 (λz=>decide (0<z)) hp.s1 yax (enters_of Tryz.func141 (by kernel_rfl) rfl);have f2:=fo p.2 142 (λz=>decide (z<0)) hp.s2 yay (enters_of Tryz.func142 (by kernel_rfl) rfl);rw[e1] at f1;rw[e2] at f2;refine ya4 _ _ _ _ _ _ (Geo.cmpR (if p.1<0 then 0 else p.1) (if 0<p.2 then 0 else p.2)) (decide (0<p.1\/p.2<0)) ?_ w (hid hw) (hid λW g hW h=>f1 W g hW h) (hid λW g hW h=>f2 W g hW h) (hid λW hW=>zgq _ _ k k hk hk (by omega) (by split;exact z0;exact hp.s1) (by split;exact z0;exact hp.s2) W hW);rw[z6o];have:=hp.le;refine decide_eq_decide.2 ?_;split<;>split<;>grind
theorem z8c (v:Value) (a b:List UInt8) (m1 r1 m2 r2:Int) (h1:r1=0\/r1=4) (h2:r2=0\/r2=4) (w:zA)
 (CK:Hid (∀(W:zA) (A:Nat),qL w W->W.heap[A]? =some (.cells #[St a,St b] 43 (0,0))->qJ 73 #[.slice (some ⟨A,0,none⟩) 1 1] W (.int .i64 0)))
 (CS:Hid (∀W:zA,qL w W->qJ 61 #[v] W (.int .i64 0)))
 (O1:Hid (∀W:zA,qL w W->qJ 74 #[v,St a] W (.tuple #[.int .i64 m1,.int .i64 r1])))
 (O2:Hid (∀W:zA,qL w W->qJ 74 #[v,St b] W (.tuple #[.int .i64 m2,.int .i64 r2]))):
 qJ 20 #[.agg #[St a,St b],v] w (.tuple #[.bool (if r1=0/\r2=0 then decide (0<=m1)&&decide (m2<=0) else false),.int .i64 (if r1=0/\r2=0 then 0 else 4)]):=by
 obtain⟨v1,hv1⟩:=zzX (w.alloc (.cells #[St a,St b] 43));obtain⟨b1,A1⟩:=zdn hv1;have s1:v1.heap.size=w.heap.size+1:=by rw[hv1];simp
 obtain⟨v2,hv2⟩:=zzX (v1.alloc (.cells #[St a,St b] 43));obtain⟨b2,A2⟩:=zdn hv2;rw[s1] at A2;have E2:=b1.trans (b2.mono b1.size);obtain⟨c0,c1⟩:=zct A1;have D2:=hid E2;have P2:=hid (zac b2 _ _ _ _ A1);have HC:=hid (CK.out v2 _ E2 A2);rw[hv1] at c0 c1;have HV1:=hid hv1.symm;have HV2:=hid hv2.symm;have H1:=hid h1;have H2:=hid h2;clear hv1 hv2 b1 b2 A1 A2 s1 E2 CK h1 h2;go_enter Tryz.func20,Tryz.ntmps20;go_wp21;rw[HV1.out,HV2.out];clear c0 c1 HV1 HV2;refine zzM HC.out λw1 hb=>?_;have D3:=hid (D2.out.trans (hb.mono D2.out.size));have P3:=hid (zac hb _ _ _ _ P2.out);clear hb D2 P2 HC;go_wp21;refine zzM (CS.out w1 D3.out) λw2 hb=>?_;have D4:=hid (D3.out.trans (hb.mono D3.out.size));have P4:=hid (zac hb _ _ _ _ P3.out);clear hb D3 P3 CS;obtain⟨c0,c1⟩:=zct P4.out;go_wp21;clear c0 c1;refine zzM (O1.out w2 D4.out) λw3 hb=>?_;have D5:=hid (D4.out.trans (hb.mono D4.out.size));have P5:=hid (zac hb _ _ _ _ P4.out);clear hb D4 P4 O1;obtain⟨c0,c1⟩:=zct P5.out;rcases H1.out with h|h<;>subst h
 ·go_wp21
  clear c0 c1;refine zzM (O2.out w3 D5.out) λw4 hb=>?_;have D6:=hid (D5.out.trans (hb.mono D5.out.size));clear hb D5 P5 O2;rcases H2.out with h|h<;>subst h
  ·obtain⟨t1,ht1⟩:=zzX (decide (0<=m1))
   obtain⟨t2,ht2⟩:=zzX (decide (m2<=0));have g1:=ht1.symm;have g2:=ht2.symm;clear ht1 ht2;cases t1
   all_goals
    cases t2
    all_goals
     go_wp21;go_ret2;exact⟨rfl,D6.out⟩
  ·go_wp21
   go_ret2;exact⟨rfl,D6.out⟩
 ·go_wp21
  go_ret2;exact⟨rfl,D5.out⟩
theorem z4i (v:Value) (l:List (Rat×Nat)) (h:EnS l) (p:Rat×Rat) (k:Nat) (hk:0<k) (hk2:k<=140) (hp:RgR p k) (w:zA) (hw:Hw w) (hv:SdL v l w):
 qJ 20 #[rgV p,v] w (.tuple #[.bool (conF l p).1,.int .i64 (conF l p).2]):=by
 have hl:=h.len;have ord:=λ(a:Rat) (ha:sz a k) (W:zA) (hW:qL w W)=>z4c v l a h.ok (by omega) (ha.mono hk2) W (hw.below hW) (hv.below hW);refine(z8c v _ _ _ _ _ _ (z11 l p.1) (z11 l p.2) w (hid λW A hW hA=>?_) (hid λW hW=>zlt v l h.ok (by omega) (λt ht=>(h.csz t ht).mono (by omega)) W (hw.below hW) (hv.below hW)) (hid (ord p.1 hp.s1)) (hid (ord p.2 hp.s2))).mono λe w' ⟨e1,hb⟩=>⟨?_,hb⟩
 ·exact z4g _ 1 1 (λ_=>p) (by omega) k hk hk2 (λ_ _=>hp) W (hw.below hW).wd λi hi=>by
   obtain rfl:i=0:=by omega
   exact⟨A,0,rfl,(zct hA).1,(zct hA).2⟩
 ·rw[e1]
  unfold conF;split<;>rfl
theorem ya5 {k:Nat} {W W':zA} (hb:zB k W W') {A:Nat} {o:Obj} (h:W.heap[A]? =some o) (hlt:A<k):W'.heap[A]? =some o:=(hb.block A hlt).trans h
theorem z6t (q pn pd zs sc m1 m2 fl rt lo nx hi r:List UInt8) (n:Nat) (hn:n<=100) (is:Bool) (his:(is=true/\r=lo/\hi=lo)\/is=false)
 (CK:Hid (∀W:zA,Wd W->zC zF 75 #[.slice (some ⟨W.heap.size,0,none⟩) 1 1,.slice (some ⟨W.heap.size+1,0,none⟩) 1 1] ((W.alloc (.cells #[St q] 30)).alloc (.cells #[St q] 30)) λe w'=>e=.returned (.int .i64 0)/\zB W.heap.size W w'))
 (SR:Hid (∀W:zA,qJ 76 #[.string ⟨#[48]⟩,.int .i64 (n:Int)] W (St zs)))
 (hsc:(⟨#[49]⟩:ByteArray)++⟨zs.toArray⟩=⟨sc.toArray⟩) (hzl:zs.length<=100)
 (OF:Hid (qK 77 #[St q] (.agg #[St pn,St pd])))
 (M1:Hid (qK 79 #[St pn,St sc] (St m1)))
 (M2:Hid (qK 79 #[St m1,St sc] (St m2)))
 (FL:Hid (qK 80 #[.agg #[St m2,St pd]] (St fl)))
 (RT:Hid (qK 78 #[St fl] (.tuple #[St rt,.int .i64 0])))
 (FR:Hid (qK 81 #[St rt,St sc] (St lo)))
 (RO:Hid (qK 82 #[.agg #[St pn,St pd]] (.tuple #[St r,.bool is])))
 (AD:Hid (is=false->qK 44 #[St rt,.string ⟨#[49]⟩] (.tuple #[St nx,.int .i64 0])))
 (FH:Hid (is=false->qK 81 #[St nx,St sc] (St hi)))
 (w:zA) (HW:Hid (Wd w)):
 qJ 21 #[St q,.int .i64 (n:Int)] w (.tuple #[.agg #[St lo,St hi],.int .i64 0]):=by
 have d1:decide ((n:Int)<0)=false:=decide_eq_false (by omega);have d2:decide ((100:Int)<(n:Int))=false:=decide_eq_false (by omega);obtain⟨v1,hv⟩:=zzX (w.alloc (.cells #[.string ⟨#[]⟩,.string ⟨#[]⟩] 43));obtain⟨a1,R1⟩:=zdn hv;have s1:v1.heap.size=w.heap.size+1:=by rw[hv];simp
 have HC:=hid (CK.out v1 (HW.out.below a1));rw[s1] at HC;have HV1:=hid hv.symm;have E1:=hid a1;have B1:=hid R1;have SC:=hid hsc;have IS:=hid his;have hl2:¬9223372036854775807<1+zs.length:=by omega
 clear hv a1 R1 s1 hsc his CK;go_enter Tryz.func21,Tryz.ntmps21;go_wp21;rw[HV1.out];clear HV1;refine zzM HC.out λw1 hb=>?_;have E2:=hid (E1.out.trans (hb.mono (by omega)));have B2:=hid (ya5 hb B1.out (by omega));clear hb E1 B1 HC;go_wp21;refine zzM (SR.out w1) λw2 hb=>?_;have E3:=hid (E2.out.trans (hb.mono E2.out.size));have B3:=hid (zac hb _ _ _ _ B2.out);clear hb E2 B2 SR;have hsc:=SC.out;go_wp21;clear hsc;refine zzM (OF.out w2 (HW.out.below E3.out)) λw3 hb=>?_;obtain⟨v4,hv⟩:=zzX (w3.alloc (.cells #[St pn,St pd] 123));obtain⟨a4,R4⟩:=zdn hv;have E4:=hid (E3.out.trans ((hb.trans (a4.mono hb.size)).mono E3.out.size));have B4:=hid (zac a4 _ _ _ _ (zac hb _ _ _ _ B3.out));have PB:=hid R4;have QB:=hid (zct R4);have HV:=hid hv.symm;clear hb hv a4 R4 E3 B3 OF;go_wp21
 try rw[show w3.alloc (.cells #[.string ⟨pn.toArray⟩,.string ⟨pd.toArray⟩] 123)=v4 from HV.out]
 clear HV;generalize w3.heap.size=pb at*
 refine zc4 (λ(_:Unit) i=>([.pointer (some ⟨pb,0,none⟩),St pn,St sc,St m1,St sc,St m2,.pointer (some ⟨pb,1,none⟩),St pd,.agg #[St m2,St pd],St fl,.tuple #[St rt,.int .i64 0],.tuple #[St rt,.int .i64 0],St rt,.int .i64 0,St rt,.int .i64 0]:List Value).getD i undef) (λ_ (f:Nat->Bool) W'=>qL v4 W') (by kernel_rfl) (by kernel_rfl) () (zM _ v4).drew λb=>?_;refine qB (.pointer (some ⟨pb,0,none⟩)) (λf W' h=>h) ?_;refine qB (St pn) (λf W' h=>h) ?_ (hy:=λf W' hf h=>by have q0:=zai h QB.out.1;have q1:=zai h QB.out.2;go_simp);refine qB (St sc) (λf W' h=>h) ?_;simp only[zzQ]
 refine zbv (St m1) (by rfl) (by rfl) (λf W' hf h C' hC'=>by
  go_simp;refine zzM (M1.out _ (HW.out.below (E4.out.trans (Below.mono h E4.out.size)))) λw' hb=>?_;exact⟨_,rfl,hC' _ (Below.trans h (hb.mono h.size))⟩) ?_
 refine qB (St sc) (λf W' h=>h) ?_;simp only[zzQ]
 refine zbv (St m2) (by rfl) (by rfl) (λf W' hf h C' hC'=>by
  go_simp;refine zzM (M2.out _ (HW.out.below (E4.out.trans (Below.mono h E4.out.size)))) λw' hb=>?_;exact⟨_,rfl,hC' _ (Below.trans h (hb.mono h.size))⟩) ?_
 refine qB (.pointer (some ⟨pb,1,none⟩)) (λf W' h=>h) ?_;refine qB (St pd) (λf W' h=>h) ?_ (hy:=λf W' hf h=>by have q0:=zai h QB.out.1;have q1:=zai h QB.out.2;go_simp);simp only[zzQ];refine qB (.agg #[St m2,St pd]) (λf W' h=>h) ?_;simp only[zzQ]
 refine zbv (St fl) (by rfl) (by rfl) (λf W' hf h C' hC'=>by
  go_simp;refine zzM (FL.out _ (HW.out.below (E4.out.trans (Below.mono h E4.out.size)))) λw' hb=>?_;exact⟨_,rfl,hC' _ (Below.trans h (hb.mono h.size))⟩) ?_
 try simp only[zzQ]
 refine zbv (.tuple #[St rt,.int .i64 0]) (by rfl) (by rfl) (λf W' hf h C' hC'=>by
  go_simp;refine zzM (RT.out _ (HW.out.below (E4.out.trans (Below.mono h E4.out.size)))) λw' hb=>?_;exact⟨_,rfl,hC' _ (Below.trans h (hb.mono h.size))⟩) ?_
 refine qB (.tuple #[St rt,.int .i64 0]) (λf W' h=>h) ?_;refine qB (St rt) (λf W' h=>h) ?_;simp only[zzQ];refine qB (.int .i64 0) (λf W' h=>h) ?_;refine qB (St rt) (λf W' h=>h) ?_;refine qB (.int .i64 0) (λf W' h=>h) ?_;simp only[zzQ];refine ze1 λf X hf h=>?_;have hX:qL v4 X:=h;have E5:=hid (E4.out.trans (hX.mono E4.out.size));have B5:=hid (zac hX _ _ _ _ B4.out);have P5:=hid (zac hX _ _ _ _ PB.out);clear hf h hX E4 B4 PB QB M1 M2 FL RT;go_wp21;refine zzM (FR.out X (HW.out.below E5.out)) λw5 hb=>?_;have E6:=hid (E5.out.trans (hb.mono E5.out.size));have B6:=hid (zac hb _ _ _ _ B5.out);have P6:=hid (zac hb _ _ _ _ P5.out);clear hb E5 B5 P5 FR;obtain⟨q0,q1⟩:=zct P6.out;go_wp21;clear q0 q1;refine zzM (RO.out w5 (HW.out.below E6.out)) λw6 hb=>?_;have E7:=hid (E6.out.trans (hb.mono E6.out.size));have B7:=hid (zac hb _ _ _ _ B6.out);clear hb E6 B6 P6 RO;obtain⟨c0,c1⟩:=zct B7.out;have f0:=Go.Joins.unfrozen_of_block B7.out 0;have f1:=Go.Joins.unfrozen_of_block B7.out 1;rcases IS.out with⟨h1,h2,h3⟩|h1
 ·subst h1;subst h2;subst h3
  go_wp21;have hB7:=E7.out;refine bodyPost_ret (v:=.tuple #[.agg #[St hi,St hi],.int .i64 0]) (by simp[results,Tryz.results21,go_sem,c0,c1]) rfl ⟨rfl,?_⟩
  repeat(first|exact hB7|refine Below.setCell ?_ (by dsimp only;omega) _)
 ·subst h1
  have A1:=hid (AD.out rfl);have A2:=hid (FH.out rfl);clear AD FH c0 c1 f0 f1;go_wp21;refine zzM (A1.out w6 (HW.out.below E7.out)) λw7 hb=>?_;have E8:=hid (E7.out.trans (hb.mono E7.out.size));have B8:=hid (zac hb _ _ _ _ B7.out);clear hb E7 B7 A1;go_wp21;refine zzM (A2.out w7 (HW.out.below E8.out)) λw8 hb=>?_;have E9:=hid (E8.out.trans (hb.mono E8.out.size));have B9:=hid (zac hb _ _ _ _ B8.out);clear hb E8 B8 A2;obtain⟨c0,c1⟩:=zct B9.out;have f0:=Go.Joins.unfrozen_of_block B9.out 0;have f1:=Go.Joins.unfrozen_of_block B9.out 1;go_wp21;have hB7:=E9.out;refine bodyPost_ret (v:=.tuple #[.agg #[St lo,St hi],.int .i64 0]) (by simp[results,Tryz.results21,go_sem,c0,c1]) rfl ⟨rfl,?_⟩
  repeat(first|exact hB7|refine Below.setCell ?_ (by dsimp only;omega) _)
theorem yd3 {m:Nat} (h:NrmR m) (h1:m≠1):¬isq m*isq m=m:=λe=>by
 have:=z10 h h1;unfold z5c at this;rw[show(m:Rat)/((1:Nat):Rat)=(m:Rat) by rw[show((1:Nat):Rat)=1 from rfl];grind,show((m:Nat):Rat).num.natAbs=m from rfl,show((m:Nat):Rat).den=1 from rfl,decide_eq_true e,decide_eq_true (z1p 1▸rfl:isq 1*isq 1=1)] at this;cases this
theorem lenp {n k:Nat} (hk:0<k) (h:n<10^k):(zD n).length<=k:=(zaf n k hk).2 h
theorem z4j {n k:Nat} (h:n<10^k*10^k):isq n<10^k:=Nat.mul_self_lt_mul_self_iff.1 (Nat.lt_of_le_of_lt (zv0 n).1 h)
theorem z9t (m n:Nat) (h:NrmR m) (hm:m<10^10) (hn:n<=19) (w:zA) (hw:Wd w):
 qJ 21 #[St (zD m),.int .i64 (n:Int)] w (.tuple #[rgV (betR m n),.int .i64 0]):=by
 have m0:=h.pos;have d1:zD 1=[49]:=by rw[zae (by omega)];rfl
 have sm:sz (m:Rat) 10:=zrg (by omega) (lenp (by omega) hm);have okm:=zd0 (k:=10) (by omega) (by omega) sm;have nm:=zhe m;have t0:0<10^n:=Nat.pow_pos (by omega);have t9:10^n<=10^19:=yF (by omega) hn;have tl:=lenp (k:=20) (n:=10^n) (by omega) (Nat.lt_of_le_of_lt t9 (by decide+kernel));have p1:m*10^n<10^30:=zcc (i:=10) (j:=20) hm (Nat.lt_of_le_of_lt t9 (by decide+kernel));have p2:m*10^n*10^n<10^50:=zcc (i:=30) (j:=20) p1 (Nat.lt_of_le_of_lt t9 (by decide+kernel));have e2:m*10^n*10^n=m*10^(2*n):=by rw[Nat.mul_assoc,<-Nat.pow_add,show n+n=2*n by omega]
 have hs:=zv0 (m*10^(2*n));have s25:isq (m*10^(2*n))<10^25:=z4j (by rw[<-e2];exact Nat.lt_of_lt_of_le p2 (by decide+kernel));obtain⟨N,hN⟩:=zzX (isq (m*10^(2*n)));rw[<-hN] at hs s25;have ln:=lenp (k:=25) (by omega) s25;have ln1:=lenp (k:=26) (n:=N+1) (by omega) (by have:10^25<10^26:=(by decide+kernel);omega);have tq:(0:Rat)<((10^n:Nat):Rat):=by exact_mod_cast t0
 have hlo:(betR m n).1=(N:Rat)/((10^n:Nat):Rat)/\(m=1->(betR m n).2=(betR m n).1/\(betR m n).1=1)/\(m≠1->(betR m n).2=((N+1:Nat):Rat)/((10^n:Nat):Rat)):=by
  unfold betR;rw[<-hN];refine⟨?_,λe=>?_,λe=>?_⟩
  ·by_cases e:m=1
   ·rw[if_pos e]
    have:N=10^n:=by rw[hN,e,Nat.one_mul,show 2*n=n+n by omega,Nat.pow_add];exact z1p _
    rw[this,Rat.div_def,Rat.mul_inv_cancel _ (by grind)]
   ·rw[if_neg e]
  ·rw[if_pos e];exact⟨rfl,rfl⟩
  ·rw[if_neg e]
 have CK:∀W:zA,Wd W->zC zF 75 #[.slice (some ⟨W.heap.size,0,none⟩) 1 1,.slice (some ⟨W.heap.size+1,0,none⟩) 1 1] ((W.alloc (.cells #[St (zD m)] 30)).alloc (.cells #[St (zD m)] 30)) λe w'=>e=.returned (.int .i64 0)/\zB W.heap.size W w':=λW hW=>by
  obtain⟨t1,t2⟩:=z0b W 30 _ (m:Rat) nm;have dq:=zok (k:=10) (by omega) sm;have hal:qL W ((W.alloc (.cells #[St (zD m)] 30)).alloc (.cells #[St (zD m)] 30)):=((zM _ W).alloc (zN _) _).alloc (by simp) _
  refine zzM (zji _ _ 1 1 1 1 (λ_=>(m:Rat)) (λ_=>(m:Rat)) (by omega) (by omega) (hid λ_ _ W hW=>zfj _ okm W hW) (hid λ_ _ W hW=>zio _ okm W hW) (hid λ_ _=>⟨zO dq.1 (by omega),zO dq.2 (by omega)⟩)
   (hid λ_ _ W=>zma _ (by show(0:Int)<=(m:Int);omega) W) _ (hid (hW.below hal)) (hid t1) (hid t2)) λw' hb=>?_
  exact⟨rfl,hal.trans (hb.mono hal.size)⟩
 have RO:=λW hW=>z6q m 1 (isq m) (isq 1) (by omega) (zv0 m) (zv0 1) (by have:=h.len;omega) (by rw[d1];simp) W hW;have i1:isq 1=1:=z1p 1;rw[i1] at RO;obtain⟨is,his⟩:=zzX (decide (isq m*isq m=m)&&decide (1*1=1));rw[<-his] at RO;have hm1:(is=true/\m=1)\/(is=false/\m≠1):=by
  by_cases e:m=1
  ·left;refine⟨?_,e⟩;rw[his,e,i1];rfl
  ·right;refine⟨?_,e⟩;rw[his,decide_eq_false (yd3 h e)];rfl
 have hr:∃r:List UInt8,(⟨r.toArray⟩:ByteArray)=(if is=true then⟨(numS ((isq m:Rat)/((1:Nat):Rat))).toArray⟩ else⟨#[]⟩):=by
  split
  ·exact⟨_,rfl⟩
  ·exact⟨[],rfl⟩
 obtain⟨r,hr⟩:=hr;rw[<-hr] at RO;have OF:=λW hW=>zio (m:Rat) okm W hW;rw[nm,show((m:Nat):Rat).num=(m:Int) from rfl,show((m:Nat):Rat).den=1 from rfl,Str.zad] at OF
 refine z6t (zD m) (zD m) (zD 1) (List.replicate n 48) (zD (10^n)) (zD (m*10^n)) (zD (m*10^n*10^n)) (zD (m*10^n*10^n/1)) (zD N) (numS (betR m n).1) (zD (N+1)) (numS (betR m n).2) r n (by omega) is ?_ (hid CK) (hid λW=>?_) ?_ (by simp;omega) (hid OF)
  (hid λW hW=>zs4 m (10^n) (by have:=h.len;omega) (by omega) (zO (lenp (by omega) p1) (by omega)) W hW)
  (hid λW hW=>zs4 (m*10^n) (10^n) (zO (lenp (by omega) p1) (by omega)) (by omega) (zO (lenp (by omega) p2) (by omega)) W hW)
  (hid λW hW=>z5w _ 1 (by omega) (zO (lenp (by omega) p2) (by omega)) (by rw[d1];simp) W hW)
  (hid λW hW=>by rw[Nat.div_one,e2];exact zvx _ N hs (zO (lenp (k:=50) (by omega) (by rw[<-e2];exact p2)) (by omega)) W hW)
  (hid λW hW=>by rw[hlo.1];exact z5x N (10^n) t0 (by omega) (by omega) W hW) (hid RO) (hid λ_ W hW=>?_) (hid λhi W hW=>?_) w (hid hw)
 ·rcases hm1 with⟨a,b⟩|⟨a,b⟩
  ·left
   have g:=hlo.2.1 b;refine⟨a,?_,by rw[g.1]⟩;rw[a,if_pos rfl] at hr;have hr2:r=numS ((isq m:Rat)/((1:Nat):Rat)):=by
    have:=congrArg (λx:ByteArray=>x.data.toList) hr;simpa using this
   rw[hr2,g.2,b,i1];exact congrArg numS (by decide+kernel:((1:Nat):Rat)/((1:Nat):Rat)=1)
  ·exact .inr a
 ·have:=Tryz.strings_Repeat ⟨#[48]⟩ n W (by omega) (by show 1*n<=_;omega)
  rw[show(⟨#[48]⟩:ByteArray).data.toList=[48] from rfl,zhy] at this;exact this
 ·rw[z13]
  apply ByteArray.ext;rw[ByteArray.data_append];simp
 ·have:=zva (N:Int) 1 (by rw[zd9];omega) (by decide+kernel) (by rw[show(N:Int)+1=((N+1:Nat):Int) by omega,zd9];omega) W hW
  rw[show(N:Int)+1=((N+1:Nat):Int) by omega,Str.zad,Str.zad,show itoa 1=[49] by decide+kernel] at this;exact this
 ·rcases hm1 with⟨a,b⟩|⟨a,b⟩
  ·rw[a] at hi;cases hi
  ·rw[hlo.2.2 b]
   exact z5x (N+1) (10^n) t0 (by omega) (by omega) W hW
theorem yb8 (n:Nat) (hn:1<=n) (Rd:zA->Prop):
 IterC Fence.wide n zF 140 #[] Rd (λk args=>args= #[.int .i64 (k:Int),St (numS (zet k))]) 41:=by
 intro lp J Jx W hJr hJb hY h0;have HY:=hid hY;clear hY;have HJB:=hid hJb;clear hJb hJr;have H0:=hid h0;clear h0;refine callsIn_of_wp Tryz.func140 rfl trivial ?_ rfl;simp only[Tryz.ntmps140,List.size_toArray,List.length_cons,List.length_nil,Nat.reduceAdd,Nat.reduceSub,Array.replicate_succ,Array.replicate_zero,List.push_toArray,List.append_toArray,yI,List.cons_append];gi_wp2;gi_loopw [2] (λi wr=>∃(k:Nat),k<=41/\i=.int .i64 (k:Int)/\Hid (J k wr))
  (λi _=>41-(zL i).toNat)
 case atStart=>exact⟨0,zR _,rfl,H0⟩
 case round=>
  clear H0;obtain⟨k,hk,rfl,hJ⟩:=hrel;by_cases hlt:k<41
  ·have HU:=hid (z55 k (by omega))
   have HYk:=hid λW h=>HY.out k _ W h hlt rfl;generalize numS (zet k)=u at*
   clear HY;have hle:decide ((k:Int)<=40)=true:=decide_eq_true (by omega);gi_wp2_with fail;refine⟨trivial,(callsIn_wide.2 (HU.out wr)).mono ?_⟩;rintro e w1 ⟨rfl,hb⟩;have J1:=HJB.out k wr w1 hJ.out hb;obtain⟨fn,tmps,assign,body,hy,hR⟩:=HYk.out w1 J1;clear HYk hb J1 HU;gi_wp2;refine hR.mono ?_;rintro e W3 (⟨rfl,hJ3⟩|⟨rfl,hJx3⟩)
   ·have HJ3:=hid hJ3;clear hJ3
    gi_wp2;go_roundw
    case rel=>exact⟨k+1,by omega,by go_num,HJ3⟩
    case measure=>simp[zL];omega
   ·have HJx3:=hid hJx3;clear hJx3
    gi_wp2;refine bodyPost_ret (results_none rfl _ _ _) rfl ?_;exact⟨⟨_,rfl⟩,.inr HJx3.out⟩
  ·obtain rfl:k=41:=by omega
   gi_wp2;go_end0;exact⟨⟨_,rfl⟩,.inl hJ.out⟩
theorem z3z {l:List (Rat×Nat)} {k:Nat} (hk:k<41):sepR l (41-k) k=match ofU l (zet k) with
 |none=>(0,4)
 |some p=>if 0<p.1\/p.2<0 then((k:Int),0) else sepR l (41-(k+1)) (k+1):=by
 rw[show 41-k=41-(k+1)+1 by omega];rfl
structure SepS (w:zA) (vs:Value) (W:zA):Prop where
 bel:qL w W
 b0:W.cell? ⟨w.heap.size,0,none⟩=some vs
 b1:W.cell? ⟨w.heap.size+1,0,none⟩=some (.slice none 0 0)
 r0:W.cell? ⟨w.heap.size+2,0,none⟩=some (.int .i64 0)
 f0:W.frozen? ⟨w.heap.size+2,0,none⟩=false
 r1:W.cell? ⟨w.heap.size+3,0,none⟩=some (.int .i64 0)
 f1:W.frozen? ⟨w.heap.size+3,0,none⟩=false
theorem SepS.keep {w:zA} {vs:Value} {W W':zA} (h:SepS w vs W) (hc:CellsKept W W') (hb:zB w.heap.size W W'):SepS w vs W':=
 ⟨h.bel.trans hb,hc.cell h.b0,hc.cell h.b1,hc.cell h.r0,hc.frozen h.r0 h.f0,hc.cell h.r1,hc.frozen h.r1 h.f1⟩
theorem SepS.next {w:zA} {vs:Value} {W W':zA} (h:SepS w vs W) (hb:qL W W'):SepS w vs W':=h.keep (zac hb) (hb.mono h.bel.size)
theorem SepS.start (w:zA) (vs:Value):SepS w vs ((((w.alloc (.cells #[vs] 26)).alloc (.cells #[.slice none 0 0] 26)).alloc (.cells #[.int .i64 0] 3)).alloc (.cells #[.int .i64 0] 27)):=by
 have b1:=Boxed.new w 26 vs;have b2:=Boxed.new (w.alloc (.cells #[vs] 26)) 26 (.slice none 0 0);have b3:=Boxed.new ((w.alloc (.cells #[vs] 26)).alloc (.cells #[.slice none 0 0] 26)) 3 (.int .i64 0);have b4:=Boxed.new (((w.alloc (.cells #[vs] 26)).alloc (.cells #[.slice none 0 0] 26)).alloc (.cells #[.int .i64 0] 3)) 27 (.int .i64 0);have c1:=((b1.alloc (.cells #[.slice none 0 0] 26)).alloc (.cells #[.int .i64 0] 3)).alloc (.cells #[.int .i64 0] 27);have c2:=(b2.alloc (.cells #[.int .i64 0] 3)).alloc (.cells #[.int .i64 0] 27);have c3:=b3.alloc (.cells #[.int .i64 0] 27);simp only[World.size_alloc] at c2 c3 b4;exact⟨((((zM _ w).alloc (zN _) _).alloc (by simp) _).alloc (by simp;omega) _).alloc (by simp;omega) _,c1.cell,c2.cell,c3.cell,c3.frozen,b4.cell,b4.frozen⟩
theorem z6u (w:zA) (p a:Addr) (v:Value) (h:p≠a):(w.setCell p v).cell? a=w.cell? a:=World.cell?_setCell_other w p a v h
theorem SepS.out {w:zA} {vs:Value} {W V:zA} (h:SepS w vs V) (hb:qL W V) (B:Nat) (x y:Value):
 KeepsFrom B W ((V.setCell ⟨w.heap.size+2,0,none⟩ x).setCell ⟨w.heap.size+3,0,none⟩ y)/\zB w.heap.size w ((V.setCell ⟨w.heap.size+2,0,none⟩ x).setCell ⟨w.heap.size+3,0,none⟩ y)/\
 ((V.setCell ⟨w.heap.size+2,0,none⟩ x).setCell ⟨w.heap.size+3,0,none⟩ y).cell? ⟨w.heap.size+2,0,none⟩=some x/\((V.setCell ⟨w.heap.size+2,0,none⟩ x).setCell ⟨w.heap.size+3,0,none⟩ y).cell? ⟨w.heap.size+3,0,none⟩=some y:=by
 have h3:(V.setCell ⟨w.heap.size+2,0,none⟩ x).cell? ⟨w.heap.size+3,0,none⟩=some (.int .i64 0):=by
  rw[z6u _ _ _ _ (by simp)];exact h.r1
 refine⟨((za0 hb).trans ((KeepsOthers.setCell _ _ _).trans (KeepsOthers.setCell _ _ _))).from B,(h.bel.setCell (by dsimp only;omega) _).setCell (by dsimp only;omega) _,?_,World.cell?_setCell_same' _ _ _ (by rw[h3];rfl)⟩;rw[z6u _ _ _ _ (by simp)];exact World.cell?_setCell_same' _ _ _ (by rw[h.r0];rfl)
theorem z8d (w:zA):qJ 71 #[] w (.func (.func 140) #[] #[]):=by
 go_enter Tryz.func71,Tryz.ntmps71;go_wp21;go_ret;exact⟨rfl,zM _ _⟩
theorem z4u (l:List (Rat×Nat)) (p:Option Addr) (n cap:Nat) (m:Int) (w:zA)
 (C1:Hid (∀W:zA,qL w W->qJ 64 #[.slice p n cap] W (.int .i64 0)))
 (C2:Hid (∀W:zA,qL w W->qJ 64 #[.slice none 0 0] W (.int .i64 0)))
 (K1:Hid (∀W:zA,qL w W->qJ 61 #[.slice p n cap] W (.int .i64 0)))
 (K2:Hid (∀W:zA,qL w W->qJ 61 #[.slice none 0 0] W (.int .i64 0)))
 (CM:Hid (∀W:zA,qL w W->qJ 12 #[.slice p n cap,.slice none 0 0] W (.tuple #[.int .i64 m,.int .i64 0])))
 (O1:Hid (∀k,k<41->∀W:zA,qL w W->qJ 62 #[.slice p n cap,St (numS (zet k))] W (rngV (ofU l (zet k)))))
 (O2:Hid (∀k,k<41->∀W:zA,qL w W->qJ 62 #[.slice none 0 0,St (numS (zet k))] W (rngV (some (0,0)))))
 (MT:Hid (∀k q,k<41->ofU l (zet k)=some q->∀W:zA,qL w W->zC zF 72 #[rgV q,rgV (0,0)] W λe w'=>∃a b,e=.returned (.tuple #[.agg #[St a,St b],.bool (!decide (0<q.1\/q.2<0)),.int .i64 0])/\zB W.heap.size W w')):
 qJ 19 #[.slice p n cap,.slice none 0 0] w (.tuple #[.int .i64 (if m=0 then 0 else(sepR l 41 0).1),.int .i64 (if m=0 then 7 else(sepR l 41 0).2)]):=by
 refine(callsIn_wide (n:=3)).1 ?_;refine callsIn_of_wp_marks Tryz.func19 rfl trivial ?_ rfl;simp only[Tryz.ntmps19,List.size_toArray,List.length_cons,List.length_nil,Nat.reduceAdd,Nat.reduceSub,Array.replicate_succ,Array.replicate_zero,List.push_toArray,List.append_toArray,yI,List.cons_append];have hS0:=SepS.start w (.slice p n cap);have c0:=hS0.b0;have HS:=hid hS0;clear hS0;gi_wp2_with fail;have hS0:=HS.out;clear c0 HS;generalize (((w.alloc (.cells #[.slice p n cap] 26)).alloc (.cells #[.slice none 0 0] 26)).alloc (.cells #[.int .i64 0] 3)).alloc (.cells #[.int .i64 0] 27)=v0 at*
 refine⟨trivial,(callsIn_wide.2 (C1.out v0 hS0.bel)).mono ?_⟩;rintro e w1 ⟨rfl,hb⟩;have S1:=hid (hS0.next hb);clear hb hS0 C1;have b0:=S1.out.b0;have b1:=S1.out.b1;gi_wp2_with fail;refine⟨trivial,(callsIn_wide.2 (C2.out w1 S1.out.bel)).mono ?_⟩;rintro e w2 ⟨rfl,hb⟩;have S2:=hid (S1.out.next hb);clear hb S1 C2 b0 b1;have b0:=S2.out.b0;have b1:=S2.out.b1;obtain⟨v3,hv⟩:=zzX (w2.alloc (.cells #[.slice p n cap,.slice none 0 0] 26));obtain⟨a3,A3⟩:=zdn hv;have S3:=hid (S2.out.next a3);have B3:=hid A3;have HV:=hid hv.symm;clear hv a3 A3 S2;gi_wp2_with fail;rw[HV.out];clear HV b0 b1;obtain⟨c0,c1⟩:=zct B3.out;refine wpIn_loop_rounds 3 ?_;rw[roundsIn_succ];gi_wp2_with fail;clear c0 c1;refine⟨trivial,(callsIn_wide.2 (K1.out v3 S3.out.bel)).mono ?_⟩;rintro e w3 ⟨rfl,hb⟩;have S4:=hid (S3.out.next hb);have B4:=hid (zac hb _ _ _ _ B3.out);clear hb S3 B3 K1;obtain⟨c0,c1⟩:=zct B4.out;gi_wp2_with fail;rw[roundsIn_succ];gi_wp2_with fail;clear c0 c1;refine⟨trivial,(callsIn_wide.2 (K2.out w3 S4.out.bel)).mono ?_⟩;rintro e w4 ⟨rfl,hb⟩;have S5:=hid (S4.out.next hb);clear hb S4 B4 K2;gi_wp2_with fail;rw[roundsIn_succ];have b0:=S5.out.b0;have b1:=S5.out.b1;gi_wp2_with fail;clear b0 b1;refine⟨trivial,(callsIn_wide.2 (CM.out w4 S5.out.bel)).mono ?_⟩;rintro e w5 ⟨rfl,hb⟩;have S6:=hid (S5.out.next hb);clear hb S5 CM;by_cases hm:m=0
 ·subst hm
  have r0:=S6.out.r0;have f0:=S6.out.f0;have r1:=S6.out.r1;have f1:=S6.out.f1;have hB:=hid S6.out.bel;gi_wp2_with fail;have hc0:=hB.out;refine⟨.tuple #[.int .i64 0,.int .i64 7],by simp[results,Tryz.f19,go_sem,r0,r1],rfl,?_⟩
  repeat(first|exact hc0|refine Below.setCell ?_ (by dsimp only;omega) _)
 ·have hm2:(m==0)=false:=by simpa using hm
  gi_wp2_with fail;refine⟨trivial,(callsIn_wide.2 (z8d w5)).mono ?_⟩;rintro e w6 ⟨rfl,hb⟩;have S7:=S6.out.next hb;clear hb S6 hm2;have HM:=hid hm;clear hm;gi_wp2_with fail
  refine z9z (n:=3) (B:=w.heap.size) rfl (by omega) rfl trivial (enters_of Tryz.func140 (by kernel_rfl) rfl) (yb8 2 (by omega) (λW=>SepS w (.slice p n cap) W)) (λk args h=>by subst h;rfl) S7.bel.size
   (λk W=>SepS w (.slice p n cap) W/\sepR l 41 0=sepR l (41-k) k)
   (λc _ W=>c=.ret/\zB w.heap.size w W/\W.cell? ⟨w.heap.size+2,0,none⟩=some (.int .i64 (sepR l 41 0).1)/\W.cell? ⟨w.heap.size+3,0,none⟩=some (.int .i64 (sepR l 41 0).2))
   (λk W W' h hc hb=>⟨h.1.keep hc hb,h.2⟩) (λc k W W' h hc hb=>⟨h.1,h.2.1.trans hb,hc.cell h.2.2.1,hc.cell h.2.2.2⟩) (λk W h=>h.1) ⟨S7,rfl⟩
   (λk _ a' W=>a'=({tmps:= #[Value.slice p n cap,Value.slice none 0 0,Value.pointer (some {block:=w.heap.size,off:=0}),Value.pointer (some {block:=w.heap.size+1,off:=0}),Value.pointer (some {block:=w.heap.size+1+1,off:=0}),Value.pointer (some {block:=w.heap.size+1+1+1,off:=0}),undef,Value.slice none 0 0,Value.int IntKind.i64 0,Value.int IntKind.i64 m,Value.int IntKind.i64 0,Value.int IntKind.i64 (k:Int),St (numS (zet k)),undef,undef,undef,undef,undef,undef,Value.slice p n cap,Value.int IntKind.i64 0,Value.bool false,Value.bool false,Value.slice none 0 0,Value.int IntKind.i64 0,Value.bool false,Value.bool false,Value.slice p n cap,Value.slice none 0 0,Value.slice (some {block:=w2.heap.size,off:=0}) 2 2,Value.int IntKind.i64 2,Value.int IntKind.i64 2,Value.bool false,Value.pointer (some {block:=w2.heap.size,off:=1}),Value.slice none 0 0,Value.slice none 0 0,Value.int IntKind.i64 0,Value.int IntKind.i64 0,Value.bool false,undef,Value.int IntKind.i64 2,Value.tuple #[Value.int IntKind.i64 m,Value.int IntKind.i64 0],Value.slice p n cap,Value.slice none 0 0,Value.tuple #[Value.int IntKind.i64 m,Value.int IntKind.i64 0],Value.int IntKind.i64 m,Value.int IntKind.i64 0,Value.int IntKind.i64 0,Value.bool false,undef,Value.int IntKind.i64 m,Value.bool false,Value.func (Fn.func 140) #[] #[],Value.int IntKind.i64 (k:Int),St (numS (zet k)),undef,undef,undef,undef,undef,undef,undef,undef,undef,undef,undef,undef,undef,undef,undef,undef,undef,undef,undef,undef,undef,undef,undef,undef,undef,undef,undef,undef,undef,undef,undef,undef,undef],defers:=[]}:Act)) (λk _ a' W W' h hc hb=>h) ?assign ?body ?done ?stop
  case assign=>
   rintro lp k args W K hlp hrec ⟨hS,hP⟩ hk rfl hK;have HK:=hid hK;clear hK;gi_wp2;refine HK.out _ _ ⟨zN _,λ_ _ _ h _=>h⟩ ⟨hS,hP⟩ rfl
  case body=>
   rintro lp k args a' W hlp ⟨r,hr⟩ ⟨hS,hP⟩ hk rfl rfl;have H0:=hid (⟨hS,hP⟩:SepS w (.slice p n cap) W/\sepR l 41 0=sepR l (41-k) k);have G1:=hid (O1.out k hk);have G2:=hid (O2.out k hk);have G3:=hid λq h=>MT.out k q hk h;have b0:=hS.b0;clear O1 O2 MT hr hS hP S7 HM;generalize numS (zet k)=u at*
   gi_wp2_with fail;refine⟨trivial,(CallsIn.inRound lp (callsIn_wide.2 (G1.out W H0.out.1.bel))).mono ?_⟩;clear b0
   cases ho:ofU l (zet k) with
   |none=>
    rintro e w1 ⟨rfl,hb⟩;unfold rngV;obtain⟨v2,hv⟩:=zzX (w1.alloc (.cells #[.string ⟨#[]⟩,.string ⟨#[]⟩] 43));have hb2:=hb.trans ((zdn hv).1.mono hb.size);have S1:=H0.out.1.next hb2;have r0:=S1.r0;have f0:=S1.f0;have r1:=S1.r1;have f1:=S1.f1;rw[hv] at r0 f0 r1 f1;have HX:=hid (⟨S1,hb2⟩:SepS w (.slice p n cap) v2/\zB W.heap.size W v2);have HO:=hid ho;have HV:=hid hv.symm;clear S1 hb hb2 G1 G2 G3 ho hv;gi_wp2_with fail;rw[show w1.alloc (.cells #[.string ⟨#[]⟩,.string ⟨#[]⟩] 43)=v2 from HV.out];clear r0 f0 r1 f1;have hR:sepR l 41 0=(0,4):=by rw[H0.out.2,z3z hk,HO.out]
    rw[hR];obtain⟨g1,g2,g3,g4⟩:=HX.out.1.out HX.out.2 w6.heap.size (.int .i64 0) (.int .i64 4);exact⟨g1,rfl,g2,g3,g4⟩
   |some q=>
    rintro e w1 ⟨rfl,hb⟩;simp only[rngV];have G4:=hid (G3.out q ho);have HO:=hid ho;obtain⟨v2,hv⟩:=zzX (w1.alloc (.cells #[St (numS q.1),St (numS q.2)] 43));obtain⟨a2,A2⟩:=zdn hv;have hb2:=hb.trans (a2.mono hb.size);have HX:=hid (⟨H0.out.1.next hb2,hb2⟩:SepS w (.slice p n cap) v2/\zB W.heap.size W v2);have B2:=hid A2;have b1:=HX.out.1.b1;rw[hv] at b1;have HV:=hid hv.symm;clear hb hb2 a2 A2 hv G3 G1 ho;simp only[rngV] at G2;unfold rgV at G4;generalize numS q.1=x at*
    generalize numS q.2=y at*
    generalize numS ((0,0):Rat×Rat).1=z0 at*
    obtain⟨bk,hbk⟩:∃bk,bk=decide (0<q.1\/q.2<0):=⟨_,rfl⟩;rw[<-hbk] at G4;have HK:=hid hbk;clear hbk;gi_wp2_with fail;rw[show w1.alloc (.cells #[St x,St y] 43)=v2 from HV.out];clear HV b1;refine⟨trivial,(CallsIn.inRound lp (callsIn_wide.2 (G2.out v2 HX.out.1.bel))).mono ?_⟩;rintro e w3 ⟨rfl,hb⟩;obtain⟨v4,hv⟩:=zzX (w3.alloc (.cells #[St z0,St z0] 43));obtain⟨a4,A4⟩:=zdn hv;have hb4:=hb.trans (a4.mono hb.size);have HY:=hid (⟨HX.out.1.next hb4,HX.out.2.trans (hb4.mono HX.out.2.size)⟩:SepS w (.slice p n cap) v4/\zB W.heap.size W v4);obtain⟨c0,c1⟩:=zct (zac a4 _ _ _ _ (zac hb _ _ _ _ B2.out));obtain⟨d0,d1⟩:=zct A4;rw[hv] at c0 c1 d0 d1;have HV:=hid hv.symm;clear hb hb4 a4 A4 hv HX B2 G2;gi_wp2_with fail;rw[show w3.alloc (.cells #[St z0,St z0] 43)=v4 from HV.out];clear HV c0 c1 d0 d1;refine⟨trivial,(CallsIn.inRound lp (callsIn_wide.2 (G4.out v4 HY.out.1.bel))).mono ?_⟩;rintro e w7 ⟨ra,rb,rfl,hb⟩;obtain⟨v8,hv⟩:=zzX (w7.alloc (.cells #[St ra,St rb] 43));obtain⟨a8, -⟩:=zdn hv;have hb8:=hb.trans (a8.mono hb.size);have HZ:=hid (⟨HY.out.1.next hb8,HY.out.2.trans (hb8.mono HY.out.2.size)⟩:SepS w (.slice p n cap) v8/\zB W.heap.size W v8);have r0:=HZ.out.1.r0;have f0:=HZ.out.1.f0;have r1:=HZ.out.1.r1;have f1:=HZ.out.1.f1;rw[hv] at r0 f0 r1 f1;have HV:=hid hv.symm;clear hb hb8 a8 hv HY G4;cases bk
    ·have hno:¬(0<q.1\/q.2<0):=λh=>by have:=HK.out;rw[decide_eq_true h] at this;cases this
     have hR:sepR l 41 0=sepR l (41-(k+1)) (k+1):=by
      rw[H0.out.2,z3z hk,HO.out];exact if_neg hno
     have HR:=hid hR;clear hR hno;gi_wp2_with fail;rw[show w7.alloc (.cells #[St ra,St rb] 43)=v8 from HV.out];exact⟨(za0 HZ.out.2).from _,HZ.out.1,HR.out⟩
    ·have hyes:0<q.1\/q.2<0:=of_decide_eq_true HK.out.symm
     have hR:sepR l 41 0=((k:Int),0):=by
      rw[H0.out.2,z3z hk,HO.out];exact if_pos hyes
     have HR:=hid hR;clear hR hyes;gi_wp2_with fail;rw[show w7.alloc (.cells #[St ra,St rb] 43)=v8 from HV.out];rw[HR.out];obtain⟨g1,g2,g3,g4⟩:=HZ.out.1.out HZ.out.2 w6.heap.size (.int .i64 (k:Int)) (.int .i64 0);exact⟨g1,rfl,g2,g3,g4⟩
  case done=>
   rintro D W hD ⟨hS,hP⟩ hK;have r0:=hS.r0;have f0:=hS.f0;have r1:=hS.r1;have f1:=hS.f1;have HX:=hid (⟨hS,hP,zM W.heap.size W,S7.bel.size⟩:SepS w (.slice p n cap) W/\sepR l 41 0=sepR l (41-41) 41/\zB W.heap.size W W/\w.heap.size<=w6.heap.size);clear hS hP S7;gi_wp2_with fail;have hK1:=(KeepsOthers.setCell W ⟨w.heap.size+2,0,none⟩ (.int .i64 0)).same D _ hK rfl;have hK':=(KeepsOthers.setCell _ ⟨w.heap.size+3,0,none⟩ (.int .i64 4)).same D _ hK1 rfl;obtain⟨-,g2,g3,g4⟩:=HX.out.1.out HX.out.2.2.1 w6.heap.size (.int .i64 0) (.int .i64 4);have g3':=(zbk hK').cell g3;have g4':=(zbk hK').cell g4;have hR:sepR l 41 0=(0,4):=HX.out.2.1;rw[hR];refine⟨by simp,.inl ⟨_,_,rfl,run_takeDeferred hK',?_⟩⟩;exact⟨.tuple #[.int .i64 0,.int .i64 4],by simp[results,Tryz.f19,go_sem,g3',g4'],rfl,zby g2 (by have:=HX.out.2.2.2;omega) hK'⟩
  case stop=>
   rintro D c k W hD ⟨rfl,hbel,g3,g4⟩ hK;have HX:=hid (⟨hbel,S7.bel.size⟩:qL w W/\w.heap.size<=w6.heap.size);clear hbel S7;gi_wp2;have g3':=(zbk hK).cell g3;have g4':=(zbk hK).cell g4;refine⟨by simp,.inl ⟨_,_,rfl,run_takeDeferred hK,?_⟩⟩;exact⟨.tuple #[.int .i64 (sepR l 41 0).1,.int .i64 (sepR l 41 0).2],by simp[results,Tryz.f19,go_sem,g3',g4'],rfl,zby HX.out.1 (by have:=HX.out.2;omega) hK⟩
theorem z2k {l:List (Rat×Nat)} (h:EnS l) {u:Rat} (hu:0<u) {q:Rat×Rat} (e:ofU l u=some q):(Lo (exE l q.1)/\Lo λn=> -exE l q.2 n)/\RgR q 60:=by
 obtain⟨lo,hi⟩:=q;obtain⟨h1,h2,h3,h4⟩:=yc9 h.ok.pos hu (show ofR (ordF l) u (l.length+4) _=some (lo,hi) from e);exact⟨h1,h2,h3,h4⟩
theorem z8e (v:Value) (l:List (Rat×Nat)) (h:EnS l) (he:sgeL l=0) (w:zA) (hw:Hw w) (hv:SdL v l w):
 qJ 19 #[v,.slice none 0 0] w (.tuple #[.int .i64 (if sgnL l=0 then 0 else(sepR l 41 0).1),.int .i64 (if sgnL l=0 then 7 else(sepR l 41 0).2)]):=by
 have hl:=h.len;have hn:∀W,SdL (.slice none 0 0) [] W:=λW=>SdL.nil W;obtain⟨p,cap,rfl, -, -⟩:=hv.slice;have K:=λ(v:Value) (l:List (Rat×Nat)) (h:EnS l) (W:zA) (hW:qL w W) (hv:SdL v l W)=>zlt v l h.ok (by have:=h.len;omega) (λt ht=>(h.csz t ht).mono (by omega)) W (hw.below hW) hv;refine z4u l p l.length cap (sgnL l) w
  (hid λW hW=>zbh _ l h.ok W (hw.below hW).wd (hw.below hW).pw (hv.below hW))
  (hid λW hW=>zbh _ [] SdOk.nil W (hw.below hW).wd (hw.below hW).pw (hn W))
  (hid λW hW=>K _ l h W hW (hv.below hW)) (hid λW hW=>K _ [] EnS.nil W hW (hn W)) (hid λW hW=>?_)
  (hid λk hk W hW=>of_l _ l h (zet k) (k+1) (zfs k).1 (by omega) (by omega) (zfs k).2.1 W (hw.below hW) (hv.below hW))
  (hid λk hk W hW=>?_)
  (hid λk q hk ho W hW=>z9s q 60 (by omega) (by omega) (z2k h (zfs k).1 ho).2 W (hw.below hW).wd)
 ·refine(zjn _ _ (sgnL l) (sgeL l) (λu W=>SdL u l W) True False W
   (hid ((yc2 _ _ l h.ok W (hw.below hW) (hv.below hW) (hn W)).mono λe w' ⟨u,e1,hb,hu⟩=>?_))
   (hid λV u _ hV hu=>z0a u l h.ok V ((hw.below hW).below hV).wd ((hw.below hW).below hV).sw hu)).mono λe w' ⟨m,r,e1,hb,g⟩=>⟨?_,hb⟩
  ·obtain⟨q,n,c,rfl⟩:=hu.any
   exact⟨q,n,c,0,e1,hb,.inl ⟨rfl,hu,trivial⟩⟩
  ·rcases g with⟨_,_,g⟩|⟨g1,g2,_⟩
   ·exact g.elim
   ·rw[e1,g1,g2,he]
 ·have:=of_l _ [] EnS.nil (zet k) (k+1) (zfs k).1 (by omega) (by omega) (zfs k).2.1 W (hw.below hW) (hn W)
  rwa [z83 _ (zfs k).1] at this
end
section
open Go.RowKit Lib Str Limb Geo
theorem ya6 {l:List (Rat×Nat)} (h:EnS l) (e:sgeL l=0) {u:Rat} (hu:0<u) {q:Rat×Rat} (ho:ofU l u=some q):
 (0<cmpR q.1 0->sgnL l=1)/\(cmpR q.2 0<0->sgnL l= -1)/\(0<sgnL l->0<cmpR q.2 0)/\(sgnL l<0->cmpR q.1 0<0)/\(sgnL l=0->cmpR q.1 0=0/\cmpR q.2 0=0):=by
 obtain⟨s1,s2,s3,s4,s5⟩:=yb2 (λt ht=>(h.ok.trm t ht).ne) h.ok.pos (z2k h hu ho).1 e;have c1:=zaw q.1 0;have c2:=zaw q.2 0;refine⟨λg=>s1 (by grind),λg=>s2 (by grind),λg=>?_,λg=>?_,λg=>?_⟩
 ·have:=s3 g;grind
 ·have:=s4 g;grind
 ·have hn:=s5.1 g
  subst hn;rw[z83 u hu] at ho;injection ho with ho;subst ho;have z:cmpR 0 0=0:=by decide+kernel
  exact⟨z,z⟩
theorem zr4 {m n:Nat} (hm:m<10^10) (hn:n<=19):sz (betR m n).1 26/\sz (betR m n).2 26:=by
 have t0:0<10^n:=Nat.pow_pos (by omega);have t9:10^n<10^26:=Nat.lt_of_le_of_lt (yF (by omega) hn) (by decide+kernel);unfold betR;by_cases e:m=1
 ·rw[if_pos e]
  exact⟨⟨by decide+kernel,by decide+kernel⟩,⟨by decide+kernel,by decide+kernel⟩⟩
 ·rw[if_neg e]
  have p2:m*10^(2*n)<10^25*10^25:=by
   have a1:10^(2*n)<=10^38:=yF (by omega) (by omega);exact Nat.lt_of_lt_of_le (zcc (i:=10) (j:=39) hm (Nat.lt_of_le_of_lt a1 (by decide+kernel))) (by decide+kernel)
  have h1:=z4j p2;generalize isq (m*10^(2*n))=z at*
  have h2:z<10^26:=Nat.lt_trans h1 (by decide+kernel);have h3:z+1<10^26:=by have:10^25+1<10^26:=(by decide+kernel);omega
  exact⟨zvm (by omega) h2 t9,zvm (by omega) h3 t9⟩
theorem z84 {c:Rat} {p:Rat×Rat} {i j:Nat} (hc:sz c i) (h1:sz p.1 j) (h2:sz p.2 j):sz (mulR c p).1 (i+j)/\sz (mulR c p).2 (i+j):=by
 unfold mulR;dsimp only;constructor<;>split<;>first|exact zca hc h1|exact zca hc h2
theorem ydc (c:Rat) (p:Rat×Rat):(mulR c p).1<=(mulR c p).2:=by
 obtain⟨c1,c2⟩:=z6b c p;grind
end
section
open Go.RowKit Go.Shelf Lib Str Limb
attribute [local go_sem] Oper.semAt_some
theorem z8f (b n:Nat) (E:Nat->Int) (hn:n<=5000) (w:zA) (HC:Hid (∀j,j<n->w.cell? ⟨b,j,none⟩=some (.int .i64 (E j)))):
 zC zF 134 #[.slice (some ⟨b,0,none⟩) n n,.int .i64 4] w λe w'=>∃z:Int,e=.returned (.int .i64 z)/\zB w.heap.size w w'/\((z= -1/\∀j,j<n->E j≠4)\/((0<=z)/\∃j,j<n/\E j=4)):=by
 go_enter Tryz.func134,Tryz.ntmps134;go_wp2;go_loopw [8] (λi wr=>∃(k:Nat),k<=n/\i=.int .i64 (k:Int)/\Hid (qL w wr)/\Hid (∀j,j<k->E j≠4))
  (λi _=>n-(zL i).toNat)
 case atStart=>exact⟨0,zR _,rfl,zM _ _,λj h=>by omega⟩
 case round=>
  obtain⟨k,hk,rfl,hB,hE⟩:=hrel;by_cases hlt:k<n
  ·have c0:=(zac hB.out).cell (HC.out k hlt)
   have HEK:=hid (rfl:E k=E k);obtain⟨ek,hek⟩:=zzX (E k);rw[<-hek] at c0;have HK:=hid hek;clear hek HEK;by_cases h4:ek=4
   ·have HF:=hid (show E k=4 by rw[<-HK.out];exact h4)
    subst h4;go_wp21;go_ret;exact⟨_,rfl,hB.out,.inr ⟨by omega,k,hlt,HF.out⟩⟩
   ·have hb4:(ek==4)=false:=by simpa using h4
    have HF:Hid (∀j,j<k+1->E j≠4):=hid λj hj=>by
     rcases Nat.lt_or_ge j k with h|h
     ·exact hE.out j h
     ·obtain rfl:j=k:=by omega
      rw[<-HK.out];exact h4
    clear HK hE;go_wp21;go_roundw
    case rel=>exact⟨k+1,by omega,by go_num,hB,HF⟩
    case measure=>simp[zL];omega
  ·have hkn:k=n:=by omega
   subst hkn;go_wp21;go_ret;exact⟨_,rfl,hB.out,.inl ⟨rfl,hE.out⟩⟩
theorem ydd (b n:Nat) (E:Nat->Int) (hn:n<=5000) (w:zA) (HC:Hid (∀j,j<n->w.cell? ⟨b,j,none⟩=some (.int .i64 (E j)))):
 zC zF 65 #[.slice (some ⟨b,0,none⟩) n n,.int .i64 4] w λe w'=>∃bb,e=.returned (.bool bb)/\zB w.heap.size w w'/\(bb=false->∀j,j<n->E j≠4):=by
 have HI:=hid (z8f b n E hn w HC);clear HC;go_enter Tryz.func65,Tryz.ntmps65;go_wp21;refine HI.out.mono ?_;rintro e w1 ⟨z,rfl,hB,hz⟩;have HB:=hid hB;clear hB;rcases hz with⟨rfl,hz⟩|⟨hz,hz2⟩
 ·have HZ:=hid hz;clear hz
  go_wp21;go_ret;exact⟨_,rfl,HB.out,λ_=>HZ.out⟩
 ·have HZ:=hid hz2;clear hz2
  have hd:decide (z<0)=false:=decide_eq_false (by omega);have hd2:decide (0<=z)=true:=decide_eq_true hz;go_wp21;go_ret;exact⟨_,rfl,HB.out,λh=>by simp[] at h⟩
theorem z9u (b n:Nat) (r:Nat->Int) (hn:n<=100) (w:zA) (hc:Hid (∀i,i<n->w.cell? ⟨b,i,none⟩=some (.int .i64 (r i)))):
 zC zF 17 #[.slice (some ⟨b,0,none⟩) n n] w λe w'=>∃bb,e=.returned (.bool bb)/\zB w.heap.size w w'/\(bb=false->∀i,i<n->r i≠4):=by
 have HC:=hid (ydd b n r (by omega) w hc);clear hc;go_enter Tryz.func17,Tryz.ntmps17;go_wp21;refine HC.out.mono ?_;rintro e w1 ⟨bb,rfl,hb,hne⟩;have B:=hid hb;have HN:=hid hne;clear hb hne HC;go_wp21;go_ret;exact⟨bb,rfl,B.out,HN.out⟩
structure TlT (w:zA) (vs:Value) (ps:Option Addr) (n:Nat) (m e1:Int) (l:List (Rat×Nat)) (S:Nat->Rat×Rat) (q:Rat×Rat) (k e2:Int) (b:Bool) (e3:Int):Prop where
 e:e1=0
 c1:∀W:zA,qL w W->zC zF 18 #[St (numS q.1),St [48]] W λx w'=>x=.returned (.tuple #[.int .i64 (Geo.cmpR q.1 0),.int .i64 0])/\zB W.heap.size W w'
 c2:∀W:zA,qL w W->zC zF 18 #[St (numS q.2),St [48]] W λx w'=>x=.returned (.tuple #[.int .i64 (Geo.cmpR q.2 0),.int .i64 0])/\zB W.heap.size W w'
 cs:(m=1/\decide (Geo.cmpR q.2 0<0)=false/\decide (Geo.cmpR q.2 0<=0)=false)\/(m= -1/\decide (0<Geo.cmpR q.1 0)=false/\decide (0<=Geo.cmpR q.1 0)=false)\/(m=0/\Geo.cmpR q.1 0=0/\Geo.cmpR q.2 0=0)
 sp:∀W:zA,qL w W->zC zF 19 #[vs,.slice none 0 0] W λx w'=>x=.returned (.tuple #[.int .i64 k,.int .i64 e2])/\zB W.heap.size W w'
 s0:m=0->e2=7
 s1:m≠0->e2=4\/e2=0/\∃p:Rat×Rat,(∀W:zA,qL w W->zC zF 15 #[vs,.int .i64 k] W λx w'=>x=.returned (rngV (some p))/\zB W.heap.size W w')/\∀W:zA,qL w W->zC zF 20 #[.agg #[St (numS p.1),St (numS p.2)],.slice none 0 0] W λx w'=>x=.returned (.tuple #[.bool false,.int .i64 0])/\zB W.heap.size W w'
 tm:∀i t,l[i]? =some t->∃b off,ps=some ⟨b,off,none⟩/\b<w.heap.size/\w.cell? ⟨b,off+i*2,none⟩=some (St (numS t.1))/\w.cell? ⟨b,off+i*2+1,none⟩=some (St (zD t.2))
 mu:∀(i:Nat) t,l[i]? =some t->∀W:zA,qL w W->zC zF 9 #[St (zD t.2),St [49]] W λx w'=>x=.returned (.tuple #[St (zD t.2),.int .i64 0])/\zB W.heap.size W w'
 bt:∀(i:Nat) t,l[i]? =some t->∀W:zA,qL w W->zC zF 21 #[St (zD t.2),.int .i64 (n:Int)] W λx w'=>x=.returned (.tuple #[.agg #[St (numS (betR t.2 n).1),St (numS (betR t.2 n).2)],.int .i64 0])/\zB W.heap.size W w'
 ml:∀(i:Nat) t,l[i]? =some t->∀W:zA,qL w W->zC zF 22 #[.agg #[St (numS t.1),St (numS t.1)],.agg #[St (numS (betR t.2 n).1),St (numS (betR t.2 n).2)]] W λx w'=>x=.returned (.tuple #[.agg #[St (numS (mulR t.1 (betR t.2 n)).1),St (numS (mulR t.1 (betR t.2 n)).2)],.int .i64 0])/\zB W.heap.size W w'
 ad:∀(i:Nat) t,l[i]? =some t->∀W:zA,qL w W->zC zF 23 #[.agg #[St (numS (S i).1),St (numS (S i).2)],.agg #[St (numS (mulR t.1 (betR t.2 n)).1),St (numS (mulR t.1 (betR t.2 n)).2)]] W λx w'=>x=.returned (.tuple #[.agg #[St (numS (S (i+1)).1),St (numS (S (i+1)).2)],.int .i64 0])/\zB W.heap.size W w'
 S0:S 0=(0,0)
 len:l.length<=2
 hs:∀W:zA,qL w W->zC zF 20 #[.agg #[St (numS (S l.length).1),St (numS (S l.length).2)],vs] W λx w'=>x=.returned (.tuple #[.bool b,.int .i64 e3])/\zB W.heap.size W w'
 hb:e3=4\/e3=0/\b=true
 ck:∀W:zA,qL w W->zC zF 24 #[.agg #[St (numS (S l.length).1),St (numS (S l.length).2)]] W λx w'=>x=.returned (.int .i64 0)/\zB W.heap.size W w'
structure TlQ (w:zA) (vs:Value) (ps:Option Addr) (n:Nat) (m e1:Int) (R:Option (Rat×Rat)) (l:List (Rat×Nat)) (S:Nat->Rat×Rat) (k e2:Int) (b:Bool) (e3:Int):Prop where
 of:∀W:zA,qL w W->zC zF 15 #[vs,.int .i64 (n:Int)] W λx w'=>x=.returned (rngV R)/\zB W.heap.size W w'
 sg:∀W:zA,qL w W->zC zF 16 #[vs] W λx w'=>x=.returned (.tuple #[.int .i64 m,.int .i64 e1])/\zB W.heap.size W w'
 go:∀q,R=some q->e1≠4->TlT w vs ps n m e1 l S q k e2 b e3
theorem yde {w W:zA} {A B:Nat} {t:TypeId} {a b:Value} (a' b':Value) (h:W.heap[A]? =some (.cells #[a,b] t (0,0))) (hb:zB B w W) (hA:B<=A):
 (W.frozen? ⟨A,0,none⟩=false/\(W.setCell ⟨A,0,none⟩ a').frozen? ⟨A,1,none⟩=false)/\zB B w ((W.setCell ⟨A,0,none⟩ a').setCell ⟨A,1,none⟩ b')/\((W.setCell ⟨A,0,none⟩ a').setCell ⟨A,1,none⟩ b').heap[A]? =some (.cells #[a',b'] t (0,0)):=by
 have fz:∀i,W.frozen? ⟨A,i,none⟩=false:=λi=>by simp[World.frozen?,h]
 refine⟨⟨fz 0,by rw[World.frozen?_setCell];exact fz 1⟩,(hb.setCell (by exact hA) _).setCell (by exact hA) _,?_⟩;exact zK (i:=1) (zK (i:=0) h a') b'
theorem ydf {S:Nat->Rat×Rat} (h0:S 0=(0,0)) {W:zA} {A:Nat} {t:TypeId} (h:W.heap[A]? =some (.cells #[.string ⟨#[48]⟩,.string ⟨#[48]⟩] t (0,0))):W.heap[A]? =some (.cells #[St (numS (S 0).1),St (numS (S 0).2)] t (0,0)):=by
 rw[h0];dsimp only;rw[zie];exact h
theorem z8g (ps:Option Addr) (ns ks pl:Nat) (hpl:pl<256) (G:Prop) (w:zA)
 (GD:Hid (∀(W:zA) (A:Nat),qL w W->W.heap[A]? =some (.cells #[.slice ps ns ks] 26 (0,0))->zC zF 13 #[.slice (some ⟨A,0,none⟩) 1 1] W λe w'=>∃b:Bool,e=.returned (.bool b)/\(b=true->G)/\zB W.heap.size W w'))
 (AW:Hid (∀W:zA,qL w W->qJ 14 #[] W (.bool true)))
 (MAIN:Hid (G->∃m e1 R l S k e2 b e3,ns=l.length/\TlQ w (.slice ps ns ks) ps (pl%20) m e1 R l S k e2 b e3)):
 qJ 4 #[.slice ps ns ks,.int .u8 (pl:Int)] w (.bool true):=by
 obtain⟨v2,hv2⟩:=zzX (w.alloc (.cells #[.slice ps ns ks] 26));obtain⟨b2,A3⟩:=zdn hv2;have HT0:=hid b2;have HF:=hid (GD.out v2 _ b2 A3);have HV2:=hid hv2.symm;clear hv2 b2 A3 GD;go_enter Tryz.func4,Tryz.ntmps4;go_wp21;have h9:=HV2.out;rw[h9];clear h9 HV2;refine HF.out.mono ?_;rintro e w1 ⟨t1,rfl,ht1,hb⟩;have D0:=qT HT0 hb;have HG:=hid ht1;clear hb ht1 HF HT0;cases t1
 ·have HA:=hid (AW.out w1 D0.out)
  clear AW MAIN;go_wp21;refine zzM HA.out λw2 hb=>?_;have HB:=hid (D0.out.trans (hb.mono D0.out.size));clear hb;go_wp21;go_ret;exact⟨rfl,HB.out⟩
 obtain⟨m,e1,R,l,S,sk,e2,bv,e3,hns,hQ⟩:=MAIN.out (HG.out rfl);have O1:=hid hQ.of;have S1:=hid hQ.sg;have GO:=hid hQ.go;have HNS:=hid hns;clear MAIN HG hQ hns;have hm:IntKind.i64.wrap ((pl:Int).tmod 20)=((pl%20:Nat):Int):=by
  rw[show(pl:Int).tmod 20=((pl%20:Nat):Int) from rfl];exact IntWalk.i64_in _ ⟨by omega,by omega⟩
 go_wp21;clear hm;refine zzM (O1.out w1 D0.out) λw2 hb=>?_;have D1:=hid (D0.out.trans (hb.mono D0.out.size));clear hb D0 O1;obtain⟨a,b,r,hR⟩:∃a b r,rngV R=.tuple #[.agg #[St a,St b],.int .i64 r]/\((r=4/\R=none)\/(r=0/\∃q:Rat×Rat,R=some q/\a=numS q.1/\b=numS q.2)):=by
  cases R with
  |none=>exact⟨[],[],4,rfl,.inl ⟨rfl,rfl⟩⟩
  |some q=>exact⟨numS q.1,numS q.2,0,rfl,.inr ⟨rfl,q,rfl,rfl,rfl⟩⟩
 rw[hR.1];obtain⟨v3,hv⟩:=zzX (w2.alloc (.cells #[St a,St b] 43));obtain⟨a3,A3⟩:=zdn hv;have D2:=hid (D1.out.trans (a3.mono D1.out.size));have B2:=hid A3;have HV:=hid hv.symm;have HR:=hid hR;clear hv a3 A3 D1 hR;go_wp21;rw[HV.out];clear HV;refine zzM (S1.out v3 D2.out) λw4 hb=>?_;have D3:=hid (D2.out.trans (hb.mono D2.out.size));have B3:=hid (zac hb _ _ _ _ B2.out);clear hb D2 B2 S1;obtain⟨v5,hv⟩:=zzX (w4.alloc (.cells #[.int .i64 r,.int .i64 e1] 27));obtain⟨b5,hh⟩:=zdn hv
 have HCN:=hid (z9u w4.heap.size 2 (λi=>if i=0 then r else e1) (by omega) v5 (hid λj hj=>by
  rw[zJ hh]
  match j,hj with
  |0,_|1,_=>rfl))
 have D4:=hid (D3.out.trans (b5.mono D3.out.size));have B4:=hid (zac b5 _ _ _ _ B3.out);have HV:=hid hv.symm;clear hv b5 hh D3 B3;go_wp21;have h9:=HV.out;rw[h9];clear h9 HV;refine HCN.out.mono ?_;rintro e w6 ⟨bb,rfl,hb,hne⟩;have D5:=hid (D4.out.trans (hb.mono D4.out.size));have B5:=hid (zac hb _ _ _ _ B4.out);have HNE:=hid hne;clear hb hne HCN D4 B4;cases bb
 rotate_left
 ·have HA:=hid (AW.out w6 D5.out)
  clear AW;go_wp21;refine zzM HA.out λw7 hb=>?_;have HB:=hid (D5.out.trans (hb.mono D5.out.size));clear hb;go_wp21;go_ret;exact⟨rfl,HB.out⟩
 obtain⟨h0,q,hq,ha,hb⟩:r=0/\∃q:Rat×Rat,R=some q/\a=numS q.1/\b=numS q.2:=by
  rcases HR.out.2 with⟨h, -⟩|h
  ·exact absurd h (HNE.out rfl 0 (by omega))
  ·exact h
 have T:=GO.out q hq (HNE.out rfl 1 (by omega));subst ha;subst hb;subst h0;have h1:=T.e;subst h1;have HT:=hid T;clear T hq HR HNE GO;have C1:=hid HT.out.c1;have C2:=hid HT.out.c2;have CS:=hid HT.out.cs;generalize Geo.cmpR q.1 0=x at*
 generalize Geo.cmpR q.2 0=y at*
 generalize hs1:numS q.1=t1 at*
 generalize hs2:numS q.2=t2 at*
 clear hs1 hs2;obtain⟨c0,c1⟩:=zct B5.out;go_wp21;clear c0 c1;refine zzM (C1.out w6 D5.out) λw7 hb=>?_;have D6:=hid (D5.out.trans (hb.mono D5.out.size));have B6:=hid (zac hb _ _ _ _ B5.out);clear hb D5 B5 C1;obtain⟨c0,c1⟩:=zct B6.out;go_wp21;clear c0 c1;refine zzM (C2.out w7 D6.out) λw8 hb=>?_;have D7:=hid (D6.out.trans (hb.mono D6.out.size));clear hb D6 B6 C2;have SP:=hid HT.out.sp;have Z0:=hid HT.out.s0;have Z1:=hid HT.out.s1;have mxA:∀w:zA,(Builtin.max_ #[27,27,27,27] 27 #[.int .i64 0,.int .i64 0,.int .i64 0,.int .i64 0]).run zF w=.ok (.int .i64 0) w:=λ_=>by kernel_rfl
 have mxB:∀w:zA,(Builtin.max_ #[27,27] 27 #[.int .i64 0,.int .i64 0]).run zF w=.ok (.int .i64 0) w:=λ_=>by kernel_rfl
 have HSP:Hid ((m=0/\x=0/\y=0/\e2=7)\/((m=1/\decide (y<0)=false/\decide (y<=0)=false\/m= -1/\decide (0<x)=false/\decide (0<=x)=false)/\(e2=4\/e2=0/\∃p:Rat×Rat,(∀W:zA,qL w W->zC zF 15 #[.slice ps ns ks,.int .i64 sk] W λx w'=>x=.returned (rngV (some p))/\zB W.heap.size W w')/\∀W:zA,qL w W->zC zF 20 #[.agg #[St (numS p.1),St (numS p.2)],.slice none 0 0] W λx w'=>x=.returned (.tuple #[.bool false,.int .i64 0])/\zB W.heap.size W w'))):=hid (by
  rcases CS.out with h|h|h
  ·exact .inr ⟨.inl h,Z1.out (by omega)⟩
  ·exact .inr ⟨.inr h,Z1.out (by omega)⟩
  ·exact .inl ⟨h.1,h.2.1,h.2.2,Z0.out h.1⟩)
 clear CS Z0 Z1;have HH:Hid ((m=0/\x=0/\y=0/\e2=7)\/((∃t,m=1/\decide (0<x)=t/\decide (y<0)=false/\decide (y<=0)=false)\/∃t,m= -1/\decide (y<0)=t/\decide (0<x)=false/\decide (0<=x)=false)/\(e2=4\/e2=0/\∃p:Rat×Rat,(∀W:zA,qL w W->zC zF 15 #[.slice ps ns ks,.int .i64 sk] W λx w'=>x=.returned (rngV (some p))/\zB W.heap.size W w')/\∀W:zA,qL w W->zC zF 20 #[.agg #[St (numS p.1),St (numS p.2)],.slice none 0 0] W λx w'=>x=.returned (.tuple #[.bool false,.int .i64 0])/\zB W.heap.size W w')):=hid (by
  rcases HSP.out with h|⟨⟨h1,h2,h3⟩|⟨h1,h2,h3⟩,h⟩
  ·exact .inl h
  ·exact .inr ⟨.inl ⟨_,h1,rfl,h2,h3⟩,h⟩
  ·exact .inr ⟨.inr ⟨_,h1,rfl,h2,h3⟩,h⟩)
 clear HSP;rcases HH.out with⟨rfl,rfl,rfl,rfl⟩|⟨⟨t,rfl,j1,j2,j3⟩|⟨t,rfl,j1,j2,j3⟩,rfl|⟨rfl,p,OP,CP⟩⟩
 all_goals clear HH
 case' inr.inl.inr|inr.inr.inr=>
  have OO:=hid OP;have CC:=hid CP;clear OP CP
 case' inr.inl.inl|inr.inl.inr|inr.inr.inl|inr.inr.inr=>cases t
 case' inl|inr.inl.inl.true|inr.inl.inl.false|inr.inr.inl.true|inr.inr.inl.false=>
  go_wp21;refine zzM (SP.out w8 D7.out) λz hb=>?_;have Dz:=hid (D7.out.trans (hb.mono D7.out.size));clear hb D7 SP
 case' inr.inl.inr.true|inr.inl.inr.false|inr.inr.inr.true|inr.inr.inr.false=>
  go_wp21;refine zzM (SP.out w8 D7.out) λz hb=>?_;have Dz:=hid (D7.out.trans (hb.mono D7.out.size));clear hb D7 SP;go_wp21;refine zzM (OO.out z Dz.out) λz1 hb=>?_;have Dy:=hid (Dz.out.trans (hb.mono Dz.out.size));clear hb Dz OO;rw[show rngV (some p)=.tuple #[.agg #[St (numS p.1),St (numS p.2)],.int .i64 0] from rfl];generalize numS p.1=pa at*
  generalize numS p.2=pb at*
  obtain⟨v,hv⟩:=zzX (z1.alloc (.cells #[St pa,St pb] 43));obtain⟨b1,A1⟩:=zdn hv;obtain⟨c0,c1⟩:=zct A1;rw[hv] at c0 c1;have Dx:=hid (Dy.out.trans (b1.mono Dy.out.size));have HV:=hid hv.symm;clear hv b1 A1 Dy;go_wp21;rw[HV.out];clear c0 c1 HV;refine zzM (CC.out v Dx.out) λz hb=>?_;have Dz:=hid (Dx.out.trans (hb.mono Dx.out.size));clear hb Dx CC
 all_goals
  obtain⟨v,hv⟩:=zzX (z.alloc (.cells #[.string ⟨#[48]⟩,.string ⟨#[48]⟩] 43));obtain⟨b1,A1⟩:=zdn hv;have Dv:=hid (Dz.out.trans (b1.mono Dz.out.size));have LZ:=hid Dz.out.size;have HV:=hid hv.symm;have BZ:=hid (ydf HT.out.S0 A1);clear hv b1 A1 Dz;go_wp21;rw[HV.out];clear HV;generalize z.heap.size=sa at*
  go_loopw [151] (λi wr=>∃(k:Nat),k<=ns/\i=.int .i64 (k:Int)/\Hid (qL w wr)/\Hid (wr.heap[sa]? =some (.cells #[St (numS (S k).1),St (numS (S k).2)] 43 (0,0))))
   (λi _=>ns-(zL i).toNat)
 all_goals try case atStart=>exact⟨0,zR _,rfl,Dv,BZ⟩
 all_goals
  clear Dv BZ;obtain⟨k,hk,rfl,D1,SB⟩:=hrel;have hn2:ns<=2:=by rw[HNS.out];exact HT.out.len
  by_cases hlt:k<ns
  ·obtain⟨t,ht⟩:∃t,l[k]? =some t:=⟨_,List.getElem?_eq_getElem (by rw[<-HNS.out];exact hlt)⟩
   obtain⟨b,off,rfl,hb,c0,c1⟩:=HT.out.tm k t ht;have MU:=hid (HT.out.mu k t ht);have BT:=hid (HT.out.bt k t ht);have ML:=hid (HT.out.ml k t ht);have AD:=hid (HT.out.ad k t ht);have t0:wr.cell? ⟨b,off+k*2,none⟩=some (St (numS t.1)):=by rw[D1.out.cell (p:=⟨b,off+k*2,none⟩) hb];exact c0
   have t1:wr.cell? ⟨b,off+k*2+1,none⟩=some (St (zD t.2)):=by rw[D1.out.cell (p:=⟨b,off+k*2+1,none⟩) hb];exact c1
   generalize mulR t.1 (betR t.2 (pl%20))=M at*
   generalize betR t.2 (pl%20)=B at*
   have HLK:=hid hlt;clear c0 c1 hb ht hlt;generalize numS t.1=tx at*
   generalize zD t.2=ty at*
   generalize numS B.1=b1 at*
   generalize numS B.2=b2 at*
   generalize numS M.1=m1 at*
   generalize numS M.2=m2 at*
   obtain⟨q1,hq1⟩:=zzX (numS (S (k+1)).1);obtain⟨q2,hq2⟩:=zzX (numS (S (k+1)).2);rw[<-hq1,<-hq2] at AD;have HQ:=hid (⟨hq1,hq2⟩:_/\_);clear hq1 hq2;generalize numS (S k).1=p1 at*
   generalize numS (S k).2=p2 at*
   obtain⟨v1,hv⟩:=zzX (wr.alloc (.cells #[St tx,St ty] 37));obtain⟨a1,A1⟩:=zdn hv;obtain⟨k0,k1⟩:=zct A1;rw[hv] at k0 k1;have D2:=hid (D1.out.trans (a1.mono D1.out.size));have SB2:=hid (zac a1 _ _ _ _ SB.out);have TB:=hid A1;have HV:=hid hv.symm;clear hv a1 A1 D1 SB;go_wp21;rw[HV.out];clear HV t0 t1 k0 k1;refine zzM (MU.out v1 D2.out) λu1 hb=>?_;have D3:=hid (D2.out.trans (hb.mono D2.out.size));have SB3:=hid (zac hb _ _ _ _ SB2.out);have TB2:=hid (zac hb _ _ _ _ TB.out);clear hb D2 SB2 TB MU;generalize wr.heap.size=ta at*
   go_wp21;refine zzM (BT.out u1 D3.out) λu2 hb=>?_;have D4:=hid (D3.out.trans (hb.mono D3.out.size));have SB4:=hid (zac hb _ _ _ _ SB3.out);have TB3:=hid (zac hb _ _ _ _ TB2.out);clear hb D3 SB3 TB2 BT;obtain⟨v2,hv⟩:=zzX (u2.alloc (.cells #[St b1,St b2] 43));obtain⟨a1,A1⟩:=zdn hv;obtain⟨k0,k1⟩:=zct A1;obtain⟨g0,g1⟩:=zct (zac a1 _ _ _ _ TB3.out);rw[hv] at k0 k1 g0 g1;have D5:=hid (D4.out.trans (a1.mono D4.out.size));have SB5:=hid (zac a1 _ _ _ _ SB4.out);have HV:=hid hv.symm;clear hv a1 A1 D4 SB4 TB3;go_wp21;rw[HV.out];clear HV k0 k1 g0 g1;refine zzM (ML.out v2 D5.out) λu3 hb=>?_;have D6:=hid (D5.out.trans (hb.mono D5.out.size));have SB6:=hid (zac hb _ _ _ _ SB5.out);clear hb D5 SB5 ML;generalize u2.heap.size=ua at*
   obtain⟨v3,hv⟩:=zzX (u3.alloc (.cells #[St m1,St m2] 43));obtain⟨a1,A1⟩:=zdn hv;obtain⟨k0,k1⟩:=zct A1;obtain⟨g0,g1⟩:=zct (zac a1 _ _ _ _ SB6.out);rw[hv] at k0 k1 g0 g1;have D7:=hid (D6.out.trans (a1.mono D6.out.size));have SB7:=hid (zac a1 _ _ _ _ SB6.out);have HV:=hid hv.symm;clear hv a1 A1 D6 SB6;go_wp21;rw[HV.out];clear HV k0 k1 g0 g1;refine zzM (AD.out v3 D7.out) λu4 hb=>?_;have D8:=hid (D7.out.trans (hb.mono D7.out.size));have SB8:=hid (zac hb _ _ _ _ SB7.out);clear hb D7 SB7 AD;generalize u3.heap.size=ub at*
   obtain⟨v4,hv⟩:=zzX (u4.alloc (.cells #[St q1,St q2] 43));obtain⟨a1,A1⟩:=zdn hv;obtain⟨k0,k1⟩:=zct A1;have SB9:=zac a1 _ _ _ _ SB8.out;obtain⟨g0,g1⟩:=zct SB9;obtain⟨⟨f0,f1⟩,P1,P2⟩:=yde (St q1) (St q2) SB9 (D8.out.trans (a1.mono D8.out.size)) LZ.out;have g1':(v4.setCell ⟨sa,0,none⟩ (St q1)).cell? ⟨sa,1,none⟩=some (St p2):=by rw[z6u _ ⟨sa,0,none⟩ ⟨sa,1,none⟩ _ (by simp)];exact g1
   rw[hv] at k0 k1 g0 g1 f0 f1 g1';have D9:=hid P1;have SBX:=hid P2;have HV:=hid hv.symm;clear hv a1 A1 D8 SB8 SB9 P1 P2;go_wp21;rw[HV.out];clear HV k0 k1 g0 g1 f0 f1 g1';have hlt:=HLK.out;go_roundw
   case rel=>exact⟨k+1,by omega,by go_num,D9,by rw[<-HQ.out.1,<-HQ.out.2];exact SBX⟩
   case measure=>simp[zL];omega
  ·have hkn:k=ns:=by omega
   subst hkn;have HS:=HT.out.hs;have CK:=HT.out.ck;have HB:=HT.out.hb;rw[<-HNS.out] at HS CK;have HC:=hid HS;have KC:=hid CK;have HE:=hid HB;clear HS CK HB HT;generalize numS (S k).1=p1 at*
   generalize numS (S k).2=p2 at*
   obtain⟨g0,g1⟩:=zct SB.out;go_wp21;clear g0 g1;refine zzM (HC.out wr D1.out) λw9 hb=>?_;have D2:=hid (D1.out.trans (hb.mono D1.out.size));have SB2:=hid (zac hb _ _ _ _ SB.out);clear hb D1 SB HC;obtain⟨g0,g1⟩:=zct SB2.out;rcases HE.out with rfl|⟨rfl,rfl⟩
   all_goals
    clear HE;go_wp21;refine zzM (KC.out w9 D2.out) λwa hb=>?_;have D3:=hid (D2.out.trans (hb.mono D2.out.size));clear hb;go_wp21;refine zzM (AW.out wa D3.out) λwb hb=>?_;have D4:=hid (D3.out.trans (hb.mono D3.out.size));clear hb;go_wp21;go_ret;exact⟨rfl,D4.out⟩
end
section
open Go.RowKit Go.Shelf Lib Str Limb
end
section
open Go.RowKit Go.Shelf Lib Str Limb
attribute [local go_sem] Oper.semAt_some
structure ShrS (l:List (Rat×Nat)):Prop where
 ok:SdOk l
 len:l.length<=2
 sh:∀t∈l,sz t.1 10/\t.2<10^10
end
end Go.Proofs.YtnjiiafnneillaaGreatDoor
