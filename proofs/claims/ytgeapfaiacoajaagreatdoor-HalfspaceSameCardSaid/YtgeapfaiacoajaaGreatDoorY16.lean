/- Plain laws of HalfspaceSame. -/
import Derived.Test.YtgeapfaiacoajaaGreatDoorY15
import Derived.LaidByTextLater
set_option maxRecDepth 100000
set_option maxHeartbeats 8000000
open Go renaming World → zA, Calls → zC
open Go.Proofs.Tryz renaming prog → zF
open Go.Joins renaming cell_of_block → zJ
namespace Go.Proofs.YtgeapfaiacoajaaGreatDoor
section
open Go.RowKit Go.Shelf Lib Str Limb
theorem zj7 {T T':List (Rat×Nat)} (hT:PosR T) (hT':PosR T') {k:Rat} (hk:0<k) (hp:∀r,0<r->phi r (mkG T')= -k*phi r (mkG T)) (hb:Bd λq=>vZ (mkG T') q+k*vZ (mkG T) q) (e:sgeL (mkG T)=0) (e':sgeL (mkG T')=0):sgnL (mkG T')= -sgnL (mkG T):=by
 by_cases h:mkG T=[]
 ·have h':mkG T'=[]:=z8i hT' λr hr=>by rw[hp r hr,h];show-k*0=0;grind
  rw[h,h'];rfl
 ·have h':mkG T'≠[]:=λk'=>h (z8i hT λr hr=>by
   have:=hp r hr;rw[k'] at this;have z:(0:Rat)= -k*phi r (mkG T):=this;rcases Rat.mul_eq_zero.1 z.symm with z|z
   ·grind
   ·exact z)
  exact zq6 (λt ht=>(zx8 ht).2) (λt ht=>(zx8 ht).2) (zn6 hT) (zn6 hT') h h' hk hb e e'
theorem zq7 {a b c:Rat} (hz:a≠0\/b≠0\/c≠0) (k:Rat):ParP a b c (a*k) (b*k) (c*k)↔0<k:=by
 have hL:=z8d hz;have e:a*(a*k)+b*(b*k)+c*(c*k)=(a*a+b*b+c*c)*k:=by grind
 constructor
 ·rintro⟨-, -, -,h⟩
  rw[e] at h;rcases(show 0<k\/0<= -k by grind) with g|g
  ·exact g
  ·have:=Rat.mul_nonneg (Rat.le_of_lt hL) g
   grind
 ·intro h
  refine⟨by grind,by grind,by grind,?_⟩;rw[e];exact Rat.mul_pos hL h
theorem zrb {D:List (Rat×Nat)} (hD:PosR D) (a b c k:Rat):smL D (sclR D k) (a*k*(a*k)+b*k*(b*k)+c*k*(c*k)) (a*(a*k)+b*(b*k)+c*(c*k))=[]:=
 (yay hD (za5 hD k) _ _).2 λr hr=>by rw[zfq];grind
section
variable {D X Y Z:List (Rat×Nat)} (hD:PosR D) (hX:PosR X) (hY:PosR Y) (hZ:PosR Z)
include hD hX hY hZ
theorem zmc (a b c k:Rat) {r:Nat} (hr:0<r):phi r (sdM3 (sclR D k) X Y Z (a*k) (b*k) (c*k))=k*phi r (sdM3 D X Y Z a b c):=by
 rw[yaf hX hY hZ (za5 hD k) _ _ _ hr,yaf hX hY hZ hD _ _ _ hr,zfq];grind
theorem zj1 (a b c k:Rat):Bd λq=>vZ (sdM3 (sclR D k) X Y Z (a*k) (b*k) (c*k)) q-k*vZ (sdM3 D X Y Z a b c) q:=by
 refine((z9t hX hY hZ (za5 hD k) (a*k) (b*k) (c*k)).add (((z9t hX hY hZ hD a b c).smul k).neg.add (z66 k D).neg)).congr λq=>?_;grind
theorem zrc (a b c k:Rat) (e:sgeL (sdM3 D X Y Z a b c)=0) (e':sgeL (sdM3 (sclR D k) X Y Z (a*k) (b*k) (c*k))=0):(0<k->sgnL (sdM3 (sclR D k) X Y Z (a*k) (b*k) (c*k))=sgnL (sdM3 D X Y Z a b c))/\(k<0->sgnL (sdM3 (sclR D k) X Y Z (a*k) (b*k) (c*k))= -sgnL (sdM3 D X Y Z a b c)):=by
 have p:=z8u hX hY hZ hD a b c;have p':=z8u hX hY hZ (za5 hD k) (a*k) (b*k) (c*k);constructor
 ·intro h
  exact z9u p p' h (λr hr=>zmc hD hX hY hZ a b c k hr) (zj1 hD hX hY hZ a b c k) e e'
 ·intro h
  refine zj7 p p' (k:= -k) (by grind) (λr hr=>?_) ((zj1 hD hX hY hZ a b c k).congr λq=>?_) e e'
  ·have:=zmc hD hX hY hZ a b c k hr
   unfold sdM3 at this;rw[this];grind
  ·show vZ (sdM3 (sclR D k) X Y Z (a*k) (b*k) (c*k)) q+ -k*vZ (sdM3 D X Y Z a b c) q=_
   grind
theorem zpi {D':List (Rat×Nat)} (hD':PosR D') {a b c a' b' c':Rat} (hz:a≠0\/b≠0\/c≠0) (hp:ParP a b c a' b' c') (hs:smL D D' (a'*a'+b'*b'+c'*c') (a*a'+b*b'+c*c')=[]) (e:sgeL (sdM3 D X Y Z a b c)=0) (e':sgeL (sdM3 D' X Y Z a' b' c')=0):sgnL (sdM3 D' X Y Z a' b' c')=sgnL (sdM3 D X Y Z a b c):=by
 obtain⟨c1,c2,c3,hd⟩:=hp;have hL:=z8d hz;have hphi:=(yay hD hD' _ _).1 hs;have hnear:=zp5 hD hD' hs;obtain⟨t,ht⟩:=zzX ((a*a'+b*b'+c*c')/(a*a+b*b+c*c));have tp:0<t:=by rw[ht];exact div_pos hd hL
 have tL:t*(a*a+b*b+c*c)=a*a'+b*b'+c*c':=by rw[ht];grind
 have L0:a*a+b*b+c*c≠0:=by grind
 have cn:∀{x y:Rat},(a*a+b*b+c*c)*x=(a*a+b*b+c*c)*y->x=y:=λ{x y} h=>by
  have:(a*a+b*b+c*c)*(x-y)=0:=by grind
  rcases Rat.mul_eq_zero.1 this with z|z
  ·exact absurd z L0
  ·grind
 have ea:a'=t*a:=cn (by
  have:(a*a+b*b+c*c)*(t*a)=(t*(a*a+b*b+c*c))*a:=by grind
  rw[this,tL];grind)
 have eb:b'=t*b:=cn (by
  have:(a*a+b*b+c*c)*(t*b)=(t*(a*a+b*b+c*c))*b:=by grind
  rw[this,tL];grind)
 have ec:c'=t*c:=cn (by
  have:(a*a+b*b+c*c)*(t*c)=(t*(a*a+b*b+c*c))*c:=by grind
  rw[this,tL];grind)
 have hq:a'*a'+b'*b'+c'*c'=t*(a*a'+b*b'+c*c'):=by rw[ea,eb,ec];grind
 rw[hq] at hphi hnear;generalize hP:a*a'+b*b'+c*c'=P at*
 have P0:P≠0:=by grind
 have fD:∀r,0<r->phi r D'=t*phi r D:=λr hr=>by
  have h:=hphi r hr;have:P*(phi r D'-t*phi r D)=0:=by grind
  rcases Rat.mul_eq_zero.1 this with z|z
  ·exact absurd z P0
  ·grind
 have nD:Bd λq=>vZ D' q-t*vZ D q:=(hnear.smul (-1/P)).congr λq=>by
  have: -1/P*P= -1:=by grind
  grind
 refine z9u (z8u hX hY hZ hD a b c) (z8u hX hY hZ hD' a' b' c') tp (λr hr=>?_) ?_ e e'
 ·have h1:=yaf hX hY hZ hD a b c hr
  have h2:=yaf hX hY hZ hD' a' b' c' hr;rw[fD r hr,ea,eb,ec] at h2;rw[ea,eb,ec];unfold sdM3 at h1 h2;rw[h1,h2];grind
 ·refine((z9t hX hY hZ hD' a' b' c').add (((z9t hX hY hZ hD a b c).smul t).neg.add nD.neg)).congr λq=>?_
  show vZ (sdM3 D' X Y Z a' b' c') q-t*vZ (sdM3 D X Y Z a b c) q=_;rw[ea,eb,ec];grind
end
theorem zkd {a b c a' b' c':Rat} (h:ParP a b c a' b' c'):ParP a' b' c' a b c:=by
 obtain⟨h1,h2,h3,h4⟩:=h;exact⟨by grind,by grind,by grind,by grind⟩
theorem zmv {D D':List (Rat×Nat)} (hD:PosR D) (hD':PosR D') {a b c a' b' c':Rat} (hp:ParP a b c a' b' c') (h:smL D D' (a'*a'+b'*b'+c'*c') (a*a'+b*b'+c*c')=[]):smL D' D (a*a+b*b+c*c) (a'*a+b'*b+c'*c)=[]:=by
 obtain⟨c1,c2,c3,hd⟩:=hp;refine(yay hD' hD _ _).2 λr hr=>?_;have h1:=(yay hD hD' _ _).1 h r hr;have hl:(a*a+b*b+c*c)*(a'*a'+b'*b'+c'*c')=(a*a'+b*b'+c*c')*(a*a'+b*b'+c*c'):=by
  have:(a*a+b*b+c*c)*(a'*a'+b'*b'+c'*c')=(a*a'+b*b'+c*c')*(a*a'+b*b'+c*c')+(b*c'-c*b')*(b*c'-c*b')+(c*a'-a*c')*(c*a'-a*c')+(a*b'-b*a')*(a*b'-b*a'):=by grind
  rw[this,c1,c2,c3];grind
 have e:a'*a+b'*b+c'*c=a*a'+b*b'+c*c':=by grind
 rw[e];generalize a*a'+b*b'+c*c'=P at*
 generalize a*a+b*b+c*c=L at*
 generalize a'*a'+b'*b'+c'*c'=M at*
 generalize phi r D=x at*
 generalize phi r D'=y at*
 have:P*(y*L-x*P)=0:=by
  have e1:P*(y*L)=x*M*L:=by rw[h1];grind
  have e2:P*(x*P)=x*(L*M):=by rw[hl];grind
  grind
 rcases Rat.mul_eq_zero.1 this with z|z
 ·grind
 ·grind
end
section
open Go.RowKit Go.Shelf Lib Str Limb
attribute [local go_sem] Oper.semAt_some
def SmR (a b c a' b' c':Rat) (D D':List (Rat×Nat)) (bb:Bool) (r:Int):Prop:=
 (bb=false/\r=0/\¬ParP a b c a' b' c')\/(ParP a b c a' b' c'/\((bb=false/\r=4)\/(r=sgeL (smL D D' (a'*a'+b'*b'+c'*c') (a*a'+b*b'+c*c'))/\bb=(decide (r=0)&&decide (sgnL (smL D D' (a'*a'+b'*b'+c'*c') (a*a'+b*b'+c*c'))=0)))))
def SiR (D X Y Z:List (Rat×Nat)) (a b c:Rat) (m r:Int):Prop:=(r=4/\m=0)\/(m=sgnL (sdM3 D X Y Z a b c)/\r=sgeL (sdM3 D X Y Z a b c))
theorem SmR.iff {a b c a' b' c':Rat} {D D':List (Rat×Nat)} {bb:Bool} {r:Int} (h:SmR a b c a' b' c' D D' bb r):r=4\/(r=0/\(bb=true↔ParP a b c a' b' c'/\smL D D' (a'*a'+b'*b'+c'*c') (a*a'+b*b'+c*c')=[])):=by
 rcases h with⟨rfl,h1,h2⟩|⟨h1,⟨-,h2⟩|⟨h2,h3⟩⟩
 ·exact .inr ⟨h1,λk=>(by cases k),λk=>absurd k.1 h2⟩
 ·exact .inl h2
 ·rw[h2,zpc] at h3
  rcases zzk (smL D D' (a'*a'+b'*b'+c'*c') (a*a'+b*b'+c*c')) with g|g
  ·refine .inr ⟨h2.trans g,?_⟩
   rw[h3,decide_eq_true_iff];exact⟨λk=>⟨h1,k⟩,λk=>k.2⟩
  ·exact .inl (h2.trans g)
theorem SiR.iff {D X Y Z:List (Rat×Nat)} {a b c:Rat} {m r:Int} (h:SiR D X Y Z a b c m r):r=4\/(r=0/\m=sgnL (sdM3 D X Y Z a b c)/\sgeL (sdM3 D X Y Z a b c)=0):=by
 rcases h with⟨h, -⟩|⟨h1,h2⟩
 ·exact .inl h
 ·rcases zzk (sdM3 D X Y Z a b c) with g|g
  ·exact .inr ⟨h2.trans g,h1,g⟩
  ·exact .inl (h2.trans g)
theorem znw {a b c k:Rat} {D:List (Rat×Nat)} (hD:PosR D) (hz:a≠0\/b≠0\/c≠0) {bb:Bool} {r:Int} (h:SmR a b c (a*k) (b*k) (c*k) D (sclR D k) bb r):r=4\/(r=0/\bb=decide (0<Geo.cmpR k 0)):=by
 refine h.iff.imp id λ⟨h1,h2⟩=>⟨h1,?_⟩;rw[zq7 hz k] at h2;have h3:bb=true↔0<k:=h2.trans ⟨λg=>g.1,λg=>⟨g,zrb hD a b c k⟩⟩;have h4:=Geo.zaw k 0;by_cases g:0<k
 ·have e:Geo.cmpR k 0=1:=by grind
  rw[h3.2 g,e];rfl
 ·have e:¬(0<Geo.cmpR k 0):=by
   rcases h4 with h|h|h
   ·omega
   ·omega
   ·exact absurd h.1 g
  rw[decide_eq_false e];cases bb
  ·rfl
  ·exact absurd (h3.1 rfl) g
theorem zn5 {D D' X Y Z:List (Rat×Nat)} (hD:PosR D) (hD':PosR D') (hX:PosR X) (hY:PosR Y) (hZ:PosR Z) {a b c a' b' c' k:Rat} (hz:a≠0\/b≠0\/c≠0) (hk:k≠0) {ab ba:Bool} {f g s h t i u j:Int}
 (h1:SmR a b c a' b' c' D D' ab f) (h2:SmR a' b' c' a b c D' D ba g) (h3:SiR D X Y Z a b c s h) (h4:SiR D' X Y Z a' b' c' t i) (h5:SiR (sclR D k) X Y Z (a*k) (b*k) (c*k) u j):
 (f=4\/g=4\/h=4\/i=4\/j=4)\/(f=0/\g=0/\h=0/\i=0/\j=0/\ab=ba/\(ab=true->s=t)/\u=s*Geo.cmpR k 0):=by
 rcases h1.iff with e|⟨e1,k1⟩
 ·exact .inl (.inl e)
 rcases h2.iff with e|⟨e2,k2⟩
 ·exact .inl (.inr (.inl e))
 rcases h3.iff with e|⟨e3,k3,g3⟩
 ·exact .inl (.inr (.inr (.inl e)))
 rcases h4.iff with e|⟨e4,k4,g4⟩
 ·exact .inl (.inr (.inr (.inr (.inl e))))
 rcases h5.iff with e|⟨e5,k5,g5⟩
 ·exact .inl (.inr (.inr (.inr (.inr e))))
 have hab:ab=true↔ba=true:=by
  rw[k1,k2];exact⟨λq=>⟨zkd q.1,zmv hD hD' q.1 q.2⟩,λq=>⟨zkd q.1,zmv hD' hD q.1 q.2⟩⟩
 refine .inr ⟨e1,e2,e3,e4,e5,?_,λq=>?_,?_⟩
 ·cases ab<;>cases ba
  ·rfl
  ·exact absurd (hab.2 rfl) (by decide)
  ·exact absurd (hab.1 rfl) (by decide)
  ·rfl
 ·obtain⟨q1,q2⟩:=k1.1 q
  rw[k3,k4];exact(zpi hD hX hY hZ hD' hz q1 q2 g3 g4).symm
 ·obtain⟨q1,q2⟩:=zrc hD hX hY hZ a b c k g3 g5
  rw[k5,k3];rcases Geo.zaw k 0 with⟨q,q'⟩|⟨q,q'⟩|⟨q,q'⟩
  ·rw[q',q2 q];omega
  ·exact absurd q hk
  ·rw[q',q1 q];omega
theorem zj9 (p:Option Addr) (n k:Nat) (w:zA)
 (FI:Hid (∀W:zA,qL w W->∀A,W.heap[A]? =some (.cells #[.string ⟨#[48]⟩,.string ⟨#[48]⟩,.string ⟨#[48]⟩] 22 (0,0))->qJ 77 #[.slice (some ⟨A,0,none⟩) 3 3] W (.int .i64 0))):
 qJ 106 #[.agg #[.string ⟨#[48]⟩,.string ⟨#[48]⟩,.string ⟨#[48]⟩,.slice p n k]] w (.int .i64 12):=by
 obtain⟨v1,hv⟩:=zzX ((w.alloc (.cells #[.string ⟨#[48]⟩,.string ⟨#[48]⟩,.string ⟨#[48]⟩,.slice p n k] 26)).alloc (.cells #[.string ⟨#[48]⟩,.string ⟨#[48]⟩,.string ⟨#[48]⟩] 22));obtain⟨b1,A1,A2⟩:=box2 hv;have HF:=hid (FI.out v1 b1 _ A2);have B1:=hid b1;have P1:=hid A1;have HV:=hid hv.symm;clear hv b1 A1 A2 FI;go_enter Tryz.func106,Tryz.ntmps106;go_wp21;have h9:=HV.out;rw[h9];clear h9 HV;refine zzM HF.out λr1 hb=>?_;have P2:=hid (zac hb _ _ _ _ P1.out);have B2:=hid (B1.out.trans (hb.mono B1.out.size));clear hb B1 P1 HF;obtain⟨k0,k1,k2,k3⟩:=zfb P2.out;go_wp21;go_ret;exact⟨rfl,B2.out⟩
theorem zlm (a b c:Rat) (sa:sz a 60) (sb:sz b 60) (sc:sz c 60) (hz:a≠0\/b≠0\/c≠0) (D:List (Rat×Nat)) (hD:SdOk D) (v v':Value) (w:zA) (hw:Hw w) (hv:SdL v D w) (hv':∃q m c,v'=.slice q m c):
 qJ 12 #[.agg #[St (numS a),St (numS b),St (numS c),v],.agg #[St (numS 0),St (numS 0),St (numS 0),v']] w (.tuple #[.bool false,.int .i64 1]):=by
 obtain⟨pd,nd,kd,rfl⟩:=hv.any;obtain⟨pe,ne,ke,rfl⟩:=hv';refine z8r _ _ _ (numS 0) (numS 0) (numS 0) pd pe nd ne kd ke w (hid λV A' hV hA=>?_)
 refine z7i (some ⟨A',0,none⟩) 2 2 1 12 rfl (λi=>if i=0 then numS a else numS 0) (λi=>if i=0 then numS b else numS 0) (λi=>if i=0 then numS c else numS 0) (λi=>if i=0 then .slice pd nd kd else .slice pe ne ke) (by omega) (by omega) (λi _=>by
  by_cases h:i=0
  ·rw[if_pos h];exact⟨_,_,_,rfl⟩
  ·rw[if_neg h];exact⟨_,_,_,rfl⟩) V (hid λi hi U hU=>?_) (hid λi hi=>?_)
 ·match i,hi with
  |0,_=>exact zc9 a b c sa sb sc hz _ D hD U ((hw.below hV).below hU) ((hv.below hV).below hU)
  |1,_=>
   have n0:St (numS 0)=.string ⟨#[48]⟩:=by rw[zie]
   show zC zF 106 #[.agg #[St (numS 0),St (numS 0),St (numS 0),.slice pe ne ke]] U _;rw[n0];refine zj9 pe ne ke U (hid λW hW A hA=>?_);have z0:sz 0 60:=zb7.1.mono (by omega);refine zgr 0 0 0 z0 z0 z0 A 22 W (((hw.below hV).below hU).below hW).wd ?_;rw[n0];exact hA
 ·refine⟨A',0,rfl,?_⟩
  rw[zJ hA,zJ hA,zJ hA,zJ hA]
  match i,hi with
  |0,_|1,_=>exact⟨rfl,rfl,rfl,rfl⟩
end
section
open Go.RowKit Go.Shelf Lib Str Limb Geo
attribute [local go_sem] Oper.semAt_some
structure SxS (w:zA) (a b c a' b' c':List UInt8) (d d' m0 m1 m2:Value) (W:zA):Prop where
 bel:qL w W
 h0:W.heap[w.heap.size]? =some (.cells #[St a,St b,St c,d] 26 (0,0))
 h1:W.heap[w.heap.size+1]? =some (.cells #[St a',St b',St c',d'] 26 (0,0))
 h2:W.heap[w.heap.size+1+1]? =some (.cells #[m0,m1,m2] 28 (0,0))
theorem SxS.next {w W W':zA} {a b c a' b' c':List UInt8} {d d' m0 m1 m2:Value} (h:SxS w a b c a' b' c' d d' m0 m1 m2 W) (hb:qL W W'):SxS w a b c a' b' c' d d' m0 m1 m2 W':=
 have hc:=zac hb
 ⟨h.bel.trans (hb.mono h.bel.size),hc _ _ _ _ h.h0,hc _ _ _ _ h.h1,hc _ _ _ _ h.h2⟩
structure SmeQ (w:zA) (a b c a' b' c' x y z kk:List UInt8) (vd vd' m0 m1 m2:Value) (n:Int) (L:List (Rat×Nat)) (P0 P1 P2:Bool->Int->Prop) (Q0 Q1 Q2:Int->Int->Prop):Prop where
 cp:∀W:zA,qL w W->qJ 9 #[St kk,.string ⟨#[48]⟩] W (.tuple #[.int .i64 n,.int .i64 0])
 mx:∀W:zA,qL w W->qJ 10 #[St a,St kk] W (.tuple #[St x,.int .i64 0])
 my:∀W:zA,qL w W->qJ 10 #[St b,St kk] W (.tuple #[St y,.int .i64 0])
 mz:∀W:zA,qL w W->qJ 10 #[St c,St kk] W (.tuple #[St z,.int .i64 0])
 sc:∀W:zA,qL w W->zC zF 11 #[vd,St kk] W λe w'=>∃q m k,e=.returned (.tuple #[.slice q m k,.int .i64 0])/\Below W.heap.size W w'/\SdL (.slice q m k) L w'
 sm:∀(W:zA) (v:Value),qL w W->SdL v L W->zC zF 12 #[.agg #[St a,St b,St c,vd],.agg #[St x,St y,St z,v]] W λe w'=>∃bb r,e=.returned (.tuple #[.bool bb,.int .i64 r])/\Below W.heap.size W w'/\P0 bb r
 ab:∀W:zA,qL w W->zC zF 12 #[.agg #[St a,St b,St c,vd],.agg #[St a',St b',St c',vd']] W λe w'=>∃bb r,e=.returned (.tuple #[.bool bb,.int .i64 r])/\Below W.heap.size W w'/\P1 bb r
 ba:∀W:zA,qL w W->zC zF 12 #[.agg #[St a',St b',St c',vd'],.agg #[St a,St b,St c,vd]] W λe w'=>∃bb r,e=.returned (.tuple #[.bool bb,.int .i64 r])/\Below W.heap.size W w'/\P2 bb r
 s0:∀W:zA,qL w W->zC zF 13 #[.agg #[St a,St b,St c,vd],.agg #[m0,m1,m2]] W λe w'=>∃m r,e=.returned (.tuple #[.int .i64 m,.int .i64 r])/\Below W.heap.size W w'/\Q0 m r
 s1:∀W:zA,qL w W->zC zF 13 #[.agg #[St a',St b',St c',vd'],.agg #[m0,m1,m2]] W λe w'=>∃m r,e=.returned (.tuple #[.int .i64 m,.int .i64 r])/\Below W.heap.size W w'/\Q1 m r
 s2:∀(W:zA) (v:Value),n≠0->qL w W->SdL v L W->zC zF 13 #[.agg #[St x,St y,St z,v],.agg #[m0,m1,m2]] W λe w'=>∃m r,e=.returned (.tuple #[.int .i64 m,.int .i64 r])/\Below W.heap.size W w'/\Q2 m r
 n1:n= -1\/n=0\/n=1
 l0:∀bb r,n=0->P0 bb r->r=1
 l1:∀bb r,n≠0->P0 bb r->r=4\/(r=0/\bb=decide (0<n))
 l2:∀p f q g s h t i u j,n≠0->P1 p f->P2 q g->Q0 s h->Q1 t i->Q2 u j->(f=4\/g=4\/h=4\/i=4\/j=4)\/(f=0/\g=0/\h=0/\i=0/\j=0/\p=q/\(p=true->s=t)/\u=s*n/\ -2<s/\s<2)
theorem zsy {f g h i j:Int} {G:Prop} (H:(f=4\/g=4\/h=4\/i=4\/j=4)\/G):
 (f=4\/((f==4)=false/\g=4)\/((f==4)=false/\(g==4)=false/\h=4)\/((f==4)=false/\(g==4)=false/\(h==4)=false/\i=4)\/((f==4)=false/\(g==4)=false/\(h==4)=false/\(i==4)=false/\j=4))\/G:=by
 simp only[beq_eq_false_iff_ne];grind
theorem zly (a b c a' b' c' kk:List UInt8) (pd pe p0 p1 p2:Option Addr) (nd ne n0 n1 n2 kd ke k0 k1 k2:Nat) (G1 G2 G3:Prop) (w:zA)
 (FN:Hid (∀(W:zA) (A:Nat),qL w W->W.heap[A]? =some (.cells #[St a,St b,St c,.slice pd nd kd,St a',St b',St c',.slice pe ne ke] 26 (0,0))->zC zF 5 #[.slice (some ⟨A,0,none⟩) 2 2] W (YesI W G1)))
 (SH:Hid (∀(W:zA) (A:Nat),qL w W->W.heap[A]? =some (.cells #[St kk] 22 (0,0))->zC zF 6 #[.slice (some ⟨A,0,none⟩) 1 1] W (YesI W G2)))
 (MK:Hid (∀W:zA,qL w W->zC zF 7 #[.agg #[.slice p0 n0 k0,.slice p1 n1 k1,.slice p2 n2 k2]] W (YesI W G3)))
 (AW:Hid (∀W:zA,qL w W->qJ 8 #[] W (.bool true)))
 (MAIN:Hid (G1->G2->G3->∃x y z n L P0 P1 P2 Q0 Q1 Q2,SmeQ w a b c a' b' c' x y z kk (.slice pd nd kd) (.slice pe ne ke) (.slice p0 n0 k0) (.slice p1 n1 k1) (.slice p2 n2 k2) n L P0 P1 P2 Q0 Q1 Q2)):
 qJ 3 #[.agg #[St a,St b,St c,.slice pd nd kd],.agg #[St a',St b',St c',.slice pe ne ke],St kk,.agg #[.slice p0 n0 k0,.slice p1 n1 k1,.slice p2 n2 k2]] w (.bool true):=by
 obtain⟨v1,hv⟩:=zzX (((w.alloc (.cells #[.string ⟨a.toArray⟩,.string ⟨b.toArray⟩,.string ⟨c.toArray⟩,.slice pd nd kd] 26)).alloc (.cells #[.string ⟨a'.toArray⟩,.string ⟨b'.toArray⟩,.string ⟨c'.toArray⟩,.slice pe ne ke] 26)).alloc (.cells #[.slice p0 n0 k0,.slice p1 n1 k1,.slice p2 n2 k2] 28));have hs:SxS w a b c a' b' c' (.slice pd nd kd) (.slice pe ne ke) (.slice p0 n0 k0) (.slice p1 n1 k1) (.slice p2 n2 k2) v1/\v1.heap.size=w.heap.size+1+1+1:=by
  obtain⟨x1,hx1⟩:=zzX (w.alloc (.cells #[.string ⟨a.toArray⟩,.string ⟨b.toArray⟩,.string ⟨c.toArray⟩,.slice pd nd kd] 26));obtain⟨b1,f1⟩:=zu4 hx1;have s1:x1.heap.size=w.heap.size+1:=by rw[hx1];simp
  rw[<-hx1] at hv;obtain⟨b2,f2,f3⟩:=box2 hv;rw[s1] at f2 f3;exact⟨⟨b1.trans (b2.mono b1.size),zac b2 _ _ _ _ f1,f2,f3⟩,by rw[hv];simp[s1]⟩
 have hsz:=hs.2;obtain⟨z0,z1,z2,z3⟩:=zfb hs.1.h0;obtain⟨j0,j1,j2,j3⟩:=zfb hs.1.h1;obtain⟨v2,hv2⟩:=zzX (v1.alloc (.cells #[.string ⟨a.toArray⟩,.string ⟨b.toArray⟩,.string ⟨c.toArray⟩,.slice pd nd kd,.string ⟨a'.toArray⟩,.string ⟨b'.toArray⟩,.string ⟨c'.toArray⟩,.slice pe ne ke] 26));obtain⟨b2,A3⟩:=zu4 hv2;have HT0:=hid (hs.1.next b2);have HF:=hid (FN.out v2 _ HT0.out.bel A3);rw[hsz] at HF;have HV:=hid hv.symm;have HV2:=hid hv2.symm;have HSZ:=hid hsz;clear hv hv2 hs b2 A3 hsz FN;go_enter Tryz.func3,Tryz.ntmps3;go_wp21;have h9:=HV.out;rw[h9];clear h9 HV;go_wp21;have h9:=HV2.out;rw[h9]
 try rw[HSZ.out]
 clear h9 HV2 HSZ z0 z1 z2 z3 j0 j1 j2 j3;refine HF.out.mono ?_;rintro e w1 ⟨t1,rfl,ht1,hb⟩;have HT1:=hid (HT0.out.next hb);have HG1:=hid ht1;clear hb ht1 HF HT0;cases t1
 ·have HA:=hid (AW.out w1 HT1.out.bel)
  clear MK SH AW MAIN;go_wp21;refine zzM HA.out λw2 hb=>?_;have HB:=hid (HT1.out.bel.trans (hb.mono HT1.out.bel.size));clear hb;go_wp21;go_ret;exact⟨rfl,HB.out⟩
 obtain⟨v3,hv3⟩:=zzX (w1.alloc (.cells #[.string ⟨kk.toArray⟩] 22));obtain⟨b3,A3⟩:=zu4 hv3;have HM:=hid (SH.out v3 _ (HT1.out.next b3).bel A3);have HT1':=hid (HT1.out.next b3);have HV:=hid hv3.symm;clear SH hv3 b3 A3 HT1;go_wp21;have h9:=HV.out;rw[h9];clear h9 HV;refine HM.out.mono ?_;rintro e w2 ⟨t2,rfl,ht2,hb⟩;have HT2:=hid (HT1'.out.next hb);have HG2:=hid ht2;clear hb ht2 HM HT1';cases t2
 ·have HA:=hid (AW.out w2 HT2.out.bel)
  clear MK AW MAIN;go_wp21;refine zzM HA.out λw3 hb=>?_;have HB:=hid (HT2.out.bel.trans (hb.mono HT2.out.bel.size));clear hb;go_wp21;go_ret;exact⟨rfl,HB.out⟩
 have HM:=hid (MK.out w2 HT2.out.bel);obtain⟨z0,z1,z2, -⟩:=zah HT2.out.h2;clear MK;go_wp21;clear z0 z1 z2;refine HM.out.mono ?_;rintro e w3 ⟨t3,rfl,ht3,hb⟩;have HT3:=hid (HT2.out.next hb);have HG3:=hid ht3;clear hb ht3 HM HT2;cases t3
 ·have HA:=hid (AW.out w3 HT3.out.bel)
  clear AW MAIN;go_wp21;refine zzM HA.out λw4 hb=>?_;have HB:=hid (HT3.out.bel.trans (hb.mono HT3.out.bel.size));clear hb;go_wp21;go_ret;exact⟨rfl,HB.out⟩
 obtain⟨x,y,z,n,L,P0,P1,P2,Q0,Q1,Q2,hQ⟩:=MAIN.out (HG1.out (by trivial)) (HG2.out (by trivial)) (HG3.out (by trivial));have HQ:=hid hQ;clear hQ MAIN HG1 HG2 HG3;have HC:=hid (HQ.out.cp w3 HT3.out.bel);go_wp21;refine zzM HC.out λw4 hb=>?_;have HT4:=hid (HT3.out.next hb);clear hb HC HT3;obtain⟨z0,z1,z2,z3⟩:=zfb HT4.out.h0;have HC:=hid (HQ.out.mx w4 HT4.out.bel);go_wp21;clear z0 z1 z2 z3;refine zzM HC.out λw5 hb=>?_;have HT5:=hid (HT4.out.next hb);clear hb HC HT4;obtain⟨z0,z1,z2,z3⟩:=zfb HT5.out.h0;have HC:=hid (HQ.out.my w5 HT5.out.bel);go_wp21;clear z0 z1 z2 z3;refine zzM HC.out λw6 hb=>?_;have HT6:=hid (HT5.out.next hb);clear hb HC HT5;obtain⟨z0,z1,z2,z3⟩:=zfb HT6.out.h0;have HC:=hid (HQ.out.mz w6 HT6.out.bel);go_wp21;clear z0 z1 z2 z3;refine zzM HC.out λw7 hb=>?_;have HT7:=hid (HT6.out.next hb);clear hb HC HT6;obtain⟨z0,z1,z2,z3⟩:=zfb HT7.out.h0;have HC:=hid (HQ.out.sc w7 HT7.out.bel);go_wp21;clear z0 z1 z2 z3;refine HC.out.mono ?_;rintro e w8 ⟨q,m,k,rfl,hb,hu⟩;have HT8:=hid (HT7.out.next hb);have HU:=hid hu;clear hb hu HC HT7;have mx5:∀w:zA,(Builtin.max_ #[33,33,33,33,33] 33 #[.int .i64 0,.int .i64 0,.int .i64 0,.int .i64 0,.int .i64 0]).run zF w=.ok (.int .i64 0) w:=λ_=>by kernel_rfl
 obtain⟨y1,hy⟩:=zzX (w8.alloc (.cells #[.string ⟨x.toArray⟩,.string ⟨y.toArray⟩,.string ⟨z.toArray⟩,.slice q m k] 26));obtain⟨by1,Ay⟩:=zu4 hy;obtain⟨QB,hQe⟩:=zzX w8.heap.size;rw[<-hQe] at Ay;have HT9:=hid (HT8.out.next by1);have HB9:Hid (HfX QB x y z (.slice q m k) L y1):=hid ⟨Ay,HU.out.below by1⟩;have HY:=hid hy.symm;have HQE:=hid hQe.symm;have HC:=hid (HQ.out.sm y1 _ HT9.out.bel HB9.out.d);clear hy by1 Ay hQe HT8 HU;obtain⟨z0,z1,z2,z3⟩:=zfb HT9.out.h0;obtain⟨j0,j1,j2,j3⟩:=HB9.out.cells;rw[<-HY.out] at z0 z1 z2 z3 j0 j1 j2 j3;rw[<-HQE.out] at j0 j1 j2 j3;go_wp21;have h9:=HY.out;rw[h9]
 try rw[HQE.out]
 clear h9 HY HQE z0 z1 z2 z3 j0 j1 j2 j3 mx5;refine HC.out.mono ?_;rintro e w9 ⟨bb,r,rfl,hb,hp⟩;have HTa:=hid (HT9.out.next hb);have HBa:=hid (HB9.out.next hb);have HA:=hid (AW.out w9 HTa.out.bel);by_cases hn:n=0
 ·have hr:=HQ.out.l0 bb r hn hp
  subst hn;subst hr;clear hb hp HC HT9 HB9 HQ AW;go_wp21;refine zzM HA.out λwa hb=>?_;have HB:=hid (HTa.out.bel.trans (hb.mono HTa.out.bel.size));clear hb;go_wp21;go_ret;exact⟨rfl,HB.out⟩
 have hl:=HQ.out.l1 bb r hn hp;have hnb:(n==0)=false:=by simpa using hn
 have HN:=hid hn;clear hb hp HC HT9 HB9 hn;rcases hl with hr|⟨hr,hbb⟩
 ·subst hr
  clear HQ AW;go_wp21;refine zzM HA.out λwa hb=>?_;have HB:=hid (HTa.out.bel.trans (hb.mono HTa.out.bel.size));clear hb;go_wp21;go_ret;exact⟨rfl,HB.out⟩
 subst hr;subst hbb;clear HA;obtain⟨z0,z1,z2,z3⟩:=zfb HTa.out.h0;obtain⟨j0,j1,j2,j3⟩:=zfb HTa.out.h1;have HC:=hid (HQ.out.ab w9 HTa.out.bel);go_wp21;clear z0 z1 z2 z3 j0 j1 j2 j3 hnb;refine HC.out.mono ?_;rintro e wa ⟨p,f,rfl,hb,hp⟩;have HTb:=hid (HTa.out.next hb);have HBb:=hid (HBa.out.next hb);have HP1:=hid hp;clear hb hp HC HTa HBa;obtain⟨z0,z1,z2,z3⟩:=zfb HTb.out.h0;obtain⟨j0,j1,j2,j3⟩:=zfb HTb.out.h1;have HC:=hid (HQ.out.ba wa HTb.out.bel);go_wp21;clear z0 z1 z2 z3 j0 j1 j2 j3;refine HC.out.mono ?_;rintro e wb ⟨p',g,rfl,hb,hp⟩;have HTc:=hid (HTb.out.next hb);have HBc:=hid (HBb.out.next hb);have HP2:=hid hp;clear hb hp HC HTb HBb;obtain⟨z0,z1,z2,z3⟩:=zfb HTc.out.h0;obtain⟨j0,j1,j2, -⟩:=zah HTc.out.h2;have HC:=hid (HQ.out.s0 wb HTc.out.bel);go_wp21;clear z0 z1 z2 z3 j0 j1 j2;refine HC.out.mono ?_;rintro e wc ⟨s,h,rfl,hb,hp⟩;have HTd:=hid (HTc.out.next hb);have HBd:=hid (HBc.out.next hb);have HQ0:=hid hp;clear hb hp HC HTc HBc;obtain⟨z0,z1,z2,z3⟩:=zfb HTd.out.h1;obtain⟨j0,j1,j2, -⟩:=zah HTd.out.h2;have HC:=hid (HQ.out.s1 wc HTd.out.bel);go_wp21;clear z0 z1 z2 z3 j0 j1 j2;refine HC.out.mono ?_;rintro e wd ⟨t,i,rfl,hb,hp⟩;have HTe:=hid (HTd.out.next hb);have HBe:=hid (HBd.out.next hb);have HQ1:=hid hp;clear hb hp HC HTd HBd;obtain⟨z0,z1,z2,z3⟩:=HBe.out.cells;obtain⟨j0,j1,j2, -⟩:=zah HTe.out.h2;have HC:=hid (HQ.out.s2 wd _ HN.out HTe.out.bel HBe.out.d);go_wp21;clear z0 z1 z2 z3 j0 j1 j2;refine HC.out.mono ?_;rintro e we ⟨u,j,rfl,hb,hp⟩;have HTf:=hid (HTe.out.next hb)
 have hl:=HQ.out.l2 p f p' g s h t i u j HN.out HP1.out HP2.out HQ0.out HQ1.out hp;have hn1:=HQ.out.n1;have HA:=hid (AW.out we HTf.out.bel);clear hb hp HC HTe HBe HQ HP1 HP2 HQ0 HQ1 AW HN;rcases zsy hl with hk|⟨e1,e2,e3,e4,e5,e6,e7,e8,e9,e10⟩
 ·clear hl hn1
  rcases hk with rfl|⟨c1,rfl⟩|⟨c1,c2,rfl⟩|⟨c1,c2,c3,rfl⟩|⟨c1,c2,c3,c4,rfl⟩
  all_goals
   go_wp21;refine zzM HA.out λwf hb=>?_;have HB:=hid (HTf.out.bel.trans (hb.mono HTf.out.bel.size));clear hb;go_wp21;go_ret;exact⟨rfl,HB.out⟩
 clear hl;subst e1;subst e2;subst e3;subst e4;subst e5;subst e6;have hwm:IntKind.i64.wrap (s*n)=s*n:=IntWalk.i64_in _ (by rcases hn1 with rfl|rfl|rfl<;>omega);have e8':(u==s*n)=true:=by simpa using e8
 have mx5:∀w:zA,(Builtin.max_ #[33,33,33,33,33] 33 #[.int .i64 0,.int .i64 0,.int .i64 0,.int .i64 0,.int .i64 0]).run zF w=.ok (.int .i64 0) w:=λ_=>by kernel_rfl
 have e7':p=true->(s==t)=true:=λh=>by simpa using e7 h
 clear e7 e8 e9 e10 hn1;cases p
 case' true=>have e7:=e7' rfl
 all_goals
  clear e7';go_wp21;refine zzM HA.out λwf hb=>?_;have HB:=hid (HTf.out.bel.trans (hb.mono HTf.out.bel.size));clear hb;go_wp21;go_ret;exact⟨rfl,HB.out⟩
end
section
open Go.RowKit Go.Shelf Lib Str Limb
attribute [local go_sem] Oper.semAt_some
theorem zmw (a b c a' b' c' kk:List UInt8) (vd ve u0 u1 u2:Value) (ld le l0 l1 l2:List (List UInt8×List UInt8)) (w:zA) (hw:Hw w) (hd:SdT vd ld w) (he:SdT ve le w) (h0:SdT u0 l0 w) (h1:SdT u1 l1 w) (h2:SdT u2 l2 w):
 qJ 3 #[.agg #[St a,St b,St c,vd],.agg #[St a',St b',St c',ve],St kk,.agg #[u0,u1,u2]] w (.bool true):=by
 obtain⟨pd,nd,kd,rfl⟩:=hd.any;obtain⟨pe,ne,ke,rfl⟩:=he.any;obtain⟨p0,n0,k0,rfl⟩:=h0.any;obtain⟨p1,n1,k1,rfl⟩:=h1.any;obtain⟨p2,n2,k2,rfl⟩:=h2.any;have H:=λ(W:zA) (h:qL w W)=>hw.below h;refine zly a b c a' b' c' kk pd pe p0 p1 p2 nd ne n0 n1 n2 kd ke k0 k1 k2 ((∃A B C D,FinH a b c ld A B C D)/\∃A B C D,FinH a' b' c' le A B C D) (shT kk) _ w (hid λW A hW hA=>?_) (hid λW A hW hA=>?_) (hid λW hW=>z3p _ _ _ l0 l1 l2 W (H W hW) (h0.below hW) (h1.below hW) (h2.below hW)) (hid λW hW=>zm6 W (H W hW)) (hid λhF hV hM=>?_)
 ·refine(zt3 (some ⟨A,0,none⟩) 2 2 (λi=>if i=0 then a else a') (λi=>if i=0 then b else b') (λi=>if i=0 then c else c') (λi=>if i=0 then .slice pd nd kd else .slice pe ne ke) (λi=>if i=0 then ld else le) (by omega) W (H W hW).wd (λi hi=>?_) (λi hi=>?_)).mono λe w' ⟨t,e1,e2,e3⟩=>⟨t,e1,λh=>⟨e2 h 0 (by omega),e2 h 1 (by omega)⟩,e3⟩
  ·refine⟨A,0,rfl,?_⟩
   rw[zJ hA,zJ hA,zJ hA,zJ hA]
   match i,hi with
   |0,_|1,_=>exact⟨rfl,rfl,rfl,rfl⟩
  ·match i,hi with
   |0,_=>exact hd.below hW
   |1,_=>exact he.below hW
 ·have:=zmy (some ⟨A,0,none⟩) 1 [kk] (by simp) W (H W hW).wd (λi hi=>by
   refine⟨_,_,rfl,?_⟩;rw[zJ hA]
   match i,hi with
   |0,_=>rfl)
  exact this.mono λe w' ⟨t,h1,h2,h3⟩=>⟨t,h1,λh=>h2.1 h 0 (by simp),h3⟩
 obtain⟨⟨A,B,C,D,hF⟩,A',B',C',D',hF'⟩:=hF;obtain⟨⟨X,hX⟩,⟨Y,hY⟩,⟨Z,hZ⟩⟩:=hM;obtain⟨lk,qk,rfl, -⟩:=hV;obtain⟨ea,eb,ec,sa,sb,sc,hz,hGD⟩:=hF;subst ea;subst eb;subst ec;obtain⟨ea,eb,ec,sa',sb',sc',hz',hGE⟩:=hF';subst ea;subst eb;subst ec;obtain⟨eD,oD,nD,zD⟩:=hGD;obtain⟨eE,oE,nE,zE⟩:=hGE;obtain⟨eX,oX,nX,zX⟩:=hX;obtain⟨eY,oY,nY,zY⟩:=hY;obtain⟨eZ,oZ,nZ,zZ⟩:=hZ;have sk:=zto (by omega) lk;have vD:=hd.sd eD;have vE:=he.sd eE;have vX:=h0.sd eX;have vY:=h1.sd eY;have vZ:=h2.sd eZ;have m60:∀{q:Rat},sz q 8->sz q 60:=λh=>h.mono (by omega);have m30:∀{q:Rat},sz q 8->sz q 30:=λh=>h.mono (by omega);have m50:∀{q:Rat},sz q 8->sz q 50:=λh=>h.mono (by omega);have s3:sz3 A B C 30:=⟨m30 sa,m30 sb,m30 sc⟩;have s3':sz3 A' B' C' 30:=⟨m30 sa',m30 sb',m30 sc'⟩;have mk:∀{q:Rat},sz q 8->sz (q*qk) 16:=λh=>zca h sk;have s3k:sz3 (A*qk) (B*qk) (C*qk) 30:=⟨(mk sa).mono (by omega),(mk sb).mono (by omega),(mk sc).mono (by omega)⟩;obtain⟨-,sq⟩:=z3t sa sb sc hz;obtain⟨-,sq'⟩:=z3t sa' sb' sc' hz';have sdp:sz (A*A'+B*B'+C*C') 50:=(zk0 (zk0 (zca sa sa') (zca sb sb')) (zca sc sc')).mono (by omega);have sdp':sz (A'*A+B'*B+C'*C) 50:=(zk0 (zk0 (zca sa' sa) (zca sb' sb)) (zca sc' sc)).mono (by omega);have sp:sz (A*(A*qk)+B*(B*qk)+C*(C*qk)) 58:=by
  rw[show A*(A*qk)+B*(B*qk)+C*(C*qk)=(A*A+B*B+C*C)*qk by grind];exact zca sq sk
 have sqk:sz (A*qk*(A*qk)+B*qk*(B*qk)+C*qk*(C*qk)) 66:=by
  rw[show A*qk*(A*qk)+B*qk*(B*qk)+C*qk*(C*qk)=(A*A+B*B+C*C)*(qk*qk) by grind];exact zca sq (zca sk sk)
 have scl:∀{l:List (Rat×Nat)} {q:Rat},SdOk l->sz q 66->SclS l q:=λhl hq t ht=>(zca (hl.trm t ht).sc hq).mono (by omega);have zk:∀t∈sclR D qk,sz t.1 60:=zp4 λt ht=>(zca (zD t ht).1 sk).mono (by omega);have oK:SdOk (sclR D qk):=zw6 oD zk;have nK:(sclR D qk).length<=2:=Nat.le_trans (zxp D qk) nD;have n0':St (numS 0)=.string ⟨#[48]⟩:=by rw[zie]
 have hzk:qk≠0->A*qk≠0\/B*qk≠0\/C*qk≠0:=λh=>hz.imp (λg k=>(Rat.mul_eq_zero.1 k).elim g h) λg=>g.imp (λg k=>(Rat.mul_eq_zero.1 k).elim g h) λg k=>(Rat.mul_eq_zero.1 k).elim g h;have hc:=Geo.zaw qk 0;have ck:Geo.cmpR qk 0=0↔qk=0:=Geo.zns;refine⟨numS (A*qk),numS (B*qk),numS (C*qk),Geo.cmpR qk 0,sclR D qk,λbb r=>(qk=0->r=1)/\(qk≠0->SmR A B C (A*qk) (B*qk) (C*qk) D (sclR D qk) bb r),SmR A B C A' B' C' D D',SmR A' B' C' A B C D' D,SiR D X Y Z A B C,SiR D' X Y Z A' B' C',SiR (sclR D qk) X Y Z (A*qk) (B*qk) (C*qk),
  ⟨λW hW=>?_,λW hW=>zjf A qk 8 8 (by omega) (by omega) (by omega) sa sk W (H W hW).wd,λW hW=>zjf B qk 8 8 (by omega) (by omega) (by omega) sb sk W (H W hW).wd,λW hW=>zjf C qk 8 8 (by omega) (by omega) (by omega) sc sk W (H W hW).wd,λW hW=>?_,λW v hW hv=>?_,λW hW=>?_,λW hW=>?_,λW hW=>?_,λW hW=>?_,λW v hn hW hv=>?_,?_,λbb r hn h=>h.1 (ck.1 hn),λbb r hn h=>znw oD.pos hz (h.2 λg=>hn (ck.2 g)),λp f q g s h t i u j hn g1 g2 g3 g4 g5=>?_⟩⟩
 ·have:=zgq qk 0 8 1 (by omega) (by omega) (by omega) sk zb7.1 W (H W hW).wd
  rw[n0'] at this;exact this
 ·refine(zeu _ D qk oD (by omega) (sk.mono (by omega)) (λt ht=>(zca (zD t ht).1 sk).mono (by omega)) W (H W hW).d (H W hW).p (vD.below hW)).mono λe w' h=>?_
  obtain⟨q,m,k,r,e1,hb,⟨rfl,h, -⟩|⟨-, -,h⟩⟩:=h
  ·exact⟨q,m,k,e1,hb,h⟩
  ·exact absurd zk h
 ·by_cases h:qk=0
  ·subst h
   rw[Rat.mul_zero,Rat.mul_zero,Rat.mul_zero];exact(zlm A B C (m60 sa) (m60 sb) (m60 sc) hz D oD _ v W (H W hW) (vD.below hW) hv.any).mono λe w' ⟨e1,hb⟩=>⟨_,_,e1,hb,λ_=>rfl,λk=>absurd rfl k⟩
  ·exact(yav A B C (A*qk) (B*qk) (C*qk) s3 s3k hz (hzk h) (sp.mono (by omega)) (sqk.mono (by omega)) D (sclR D qk) oD oK (by omega) (scl oD sqk) (scl oK (sp.mono (by omega))) _ v W (H W hW) (vD.below hW) hv).mono λe w' ⟨bb,r,e1,hb,g⟩=>⟨bb,r,e1,hb,λk=>absurd k h,λ_=>g⟩
 ·exact yav A B C A' B' C' s3 s3' hz hz' (sdp.mono (by omega)) (sq'.mono (by omega)) D D' oD oE (by omega) (scl oD (sq'.mono (by omega))) (scl oE (sdp.mono (by omega))) _ _ W (H W hW) (vD.below hW) (vE.below hW)
 ·exact yav A' B' C' A B C s3' s3 hz' hz (sdp'.mono (by omega)) (sq.mono (by omega)) D' D oE oD (by omega) (scl oE (sq.mono (by omega))) (scl oD (sdp'.mono (by omega))) _ _ W (H W hW) (vE.below hW) (vD.below hW)
 ·exact(z3g A B C (m60 sa) (m60 sb) (m60 sc) hz D X Y Z oD oX oY oZ (zo6 _ _ _ _ _ _ _ (by omega)) (scl oX (sa.mono (by omega))) (scl oY (sb.mono (by omega))) (scl oZ (sc.mono (by omega))) _ _ _ _ W (H W hW) (vD.below hW) (vX.below hW) (vY.below hW) (vZ.below hW)).mono λe w' ⟨m,r,e1,hb,h⟩=>⟨m,r,e1,hb,h.imp id λk=>⟨k.1,k.2.1⟩⟩
 ·exact(z3g A' B' C' (m60 sa') (m60 sb') (m60 sc') hz' D' X Y Z oE oX oY oZ (zo6 _ _ _ _ _ _ _ (by omega)) (scl oX (sa'.mono (by omega))) (scl oY (sb'.mono (by omega))) (scl oZ (sc'.mono (by omega))) _ _ _ _ W (H W hW) (vE.below hW) (vX.below hW) (vY.below hW) (vZ.below hW)).mono λe w' ⟨m,r,e1,hb,h⟩=>⟨m,r,e1,hb,h.imp id λk=>⟨k.1,k.2.1⟩⟩
 ·have h:qk≠0:=λg=>hn (ck.2 g)
  exact(z3g (A*qk) (B*qk) (C*qk) ((mk sa).mono (by omega)) ((mk sb).mono (by omega)) ((mk sc).mono (by omega)) (hzk h) (sclR D qk) X Y Z oK oX oY oZ (zo6 _ _ _ _ _ _ _ (by omega)) (scl oX ((mk sa).mono (by omega))) (scl oY ((mk sb).mono (by omega))) (scl oZ ((mk sc).mono (by omega))) _ _ _ _ W (H W hW) hv (vX.below hW) (vY.below hW) (vZ.below hW)).mono λe w' ⟨m,r,e1,hb,h⟩=>⟨m,r,e1,hb,h.imp id λk=>⟨k.1,k.2.1⟩⟩
 ·rcases hc with⟨-,h⟩|⟨-,h⟩|⟨-,h⟩
  ·exact .inl h
  ·exact .inr (.inl h)
  ·exact .inr (.inr h)
 ·rcases zn5 oD.pos oE.pos oX.pos oY.pos oZ.pos hz (λg=>hn (ck.2 g)) g1 g2 g3 g4 g5 with k|⟨k1,k2,k3,k4,k5,k6,k7,k8⟩
  ·exact .inl k
  ·refine .inr ⟨k1,k2,k3,k4,k5,k6,k7,k8,?_⟩
   rcases g3 with⟨-,g⟩|⟨g, -⟩
   ·subst g;decide
   ·rw[g];exact znt _
end
section
open Go.RowKit Go.Shelf Lib Str Limb
open Go.ChangeShapes Go.WideShapes Go.ChangeAt
theorem zpn {H:Type} {enc:TypeId×Value->H} {W:zA} {base:Nat} {sp:Nat->Bool} {held:Bool} {r:Reach} {b0:Nat} {v:Value} {d:DataW H} {ps:List MemPlace}
 (hval:Value.okWide zF W r b0 22 v) (hd:DataW.Trod enc zF W base sp held 22 v d ps):∃x:List UInt8,v=St x:=by
 obtain⟨s0,rfl⟩:=okWide_string Tryz.underlying22 hval;exact⟨s0.data.toList,rfl⟩
theorem zhq (os:Os) (started:os.Started) (H:Type) (enc:TypeId×Value->H):
 ReturnsInHanded {} Tryz.checked os 3 .any (λw args=>(Rows.halfspaceSameSpec.pre enc zF Tryz.f3 [] false w args/\laidMetH zF Rows.halfspaceSameRow.laid w)/\sizedMet enc zF Tryz.f3 (OpenSpec.ofChange Rows.halfspaceSameSpec) false w args)
  (Rows.halfspaceSameSpec.post enc zF Tryz.f3 false true false false):=by
 refine zf9 (C:=Tryz.checked) (X:=λw _=>laidMetH zF Rows.halfspaceSameRow.laid w) (λ_ _ _ hh h=>h.of_heap hh) zrj started (by kernel_rfl) Tryz.func3
  (ChangeSpec.witness_shaped (enc:=enc) (C:=Tryz.checked) (os:=os) (X:=λw _=>laidMetH zF Rows.halfspaceSameRow.laid w) false (World.laidAll zF os Rows.halfspaceSameRow.laid)
    #[.agg #[.string ⟨#[]⟩,.string ⟨#[]⟩,.string ⟨#[]⟩,.slice none 0 0],.agg #[.string ⟨#[]⟩,.string ⟨#[]⟩,.string ⟨#[]⟩,.slice none 0 0],.string ⟨#[]⟩,.agg #[.slice none 0 0,.slice none 0 0,.slice none 0 0]] 8 (World.laidAll_os _ _ _)
    (World.shaped_of_ZipB (by kernel_rfl) (by kernel_rfl)) (by kernel_rfl) (by kernel_rfl) (by kernel_rfl)
    (by rw[MakeChecks.laidMetH_plain _ _ _ (by kernel_rfl)];exact laidMet_laidAll _ (by kernel_rfl) (by kernel_rfl))) ?_
 intro W args ds gs before base hval0 hW hL hsh;have hval:∀(j:Nat) t v,Tryz.f3.params[j]? =some t->args[j]? =some v->Value.okWide zF W .any base t v:=hval0;have hW':=hW;obtain⟨p,q,hA0,hV,rfl,_,_⟩:=hW;have hA:DataW.TrodAll enc zF W 0 (λ_=>true) true Tryz.f3.params.toList args.toList ds p:=hA0;rw[Tryz.params3] at hA hval;obtain⟨v0,vs0,d0,ds0,p0,q0,e0,rfl,rfl,h0,hA⟩:=trodAll_cons hA;obtain⟨v1,vs1,d1,ds1,p1,q1,e1,rfl,rfl,h1,hA⟩:=trodAll_cons hA;obtain⟨v2,vs2,d2,ds2,p2,q2,e2,rfl,rfl,h2,hA⟩:=trodAll_cons hA;obtain⟨v3,vs3,d3,ds3,p3,q3,rfl,rfl,rfl,h3,hA⟩:=trodAll_cons hA;obtain⟨rfl,rfl,rfl⟩:=trodAll_nil hA;obtain rfl:args= #[v0,v1,v2,v3]:=by cases args;simp_all
 obtain⟨rfl,rfl⟩:=trodVars_none hV;simp only[List.append_nil] at hW';have hlt:∀x∈p0++(p1++(p2++p3)),x.block<W.heap.size:=λx hx=>by simpa using hW'.lt x (by simpa using hx)
 have k0:=h0;have k1:=h1;have k2:=h2;have k3:=h3;obtain⟨x0,y0,z0,u0,l0,rfl,hu0⟩:=z30 (hval 0 26 v0 rfl rfl) h0;obtain⟨x1,y1,z1,u1,l1,rfl,hu1⟩:=z30 (hval 1 26 v1 rfl rfl) h1;obtain⟨x2,rfl⟩:=zpn (hval 2 22 v2 rfl rfl) h2;obtain⟨m30,m31,m32,l30,l31,l32,rfl,hm30,hm31,hm32⟩:=z31 (hval 3 28 v3 rfl rfl) h3;have hM:laidMet zF Rows.halfspaceSameRow.laid W:=by rw[<-MakeChecks.laidMetH_plain _ _ _ (by kernel_rfl)];exact hL
 have hwd:Wd W:=z0v hM (.tail _ (.tail _ (.head _))) hsh;have hpw:Pw W:=z0w hM (.tail _ (.tail _ (.tail _ (.tail _ (.tail _ (.tail _ (.head _)))))));have hsw:Spw W:=z80 hM (.tail _ (.tail _ (.tail _ (.tail _ (.tail _ (.tail _ (.tail _ (.head _))))))));refine(zmw x0 y0 z0 x1 y1 z1 x2 u0 u1 m30 m31 m32 l0 l1 l30 l31 l32 W ⟨hwd,hpw,hsw⟩ hu0 hu1 hm30 hm31 hm32).mono λe W' ⟨he,hb⟩=>?_;subst he;have t0:=Below.trod zgh (by kernel_rfl) (of_decide_eq_true (by kernel_rfl)) k0 hb (λx hx=>hlt x (by simp[hx]));have t1:=Below.trod zgh (by kernel_rfl) (of_decide_eq_true (by kernel_rfl)) k1 hb (λx hx=>hlt x (by simp[hx]));have t2:=Below.trod zgh (by kernel_rfl) (of_decide_eq_true (by kernel_rfl)) k2 hb (λx hx=>hlt x (by simp[hx]));have t3:=Below.trod zgh (by kernel_rfl) (of_decide_eq_true (by kernel_rfl)) k3 hb (λx hx=>hlt x (by simp[hx]));exact⟨_,rfl,_,_,_,[],_,[],hW',trodAll_mk1 (shut_bool Tryz.underlying4 _),trodAll_cons_mk t0 (trodAll_cons_mk t1 (trodAll_mk2 t2 t3)),rfl,hb.frame _,λh=>by cases h⟩
theorem zrd:mapsRowed zF=true:=by kernel_rfl
theorem zsz:namedTie zF Rows.halfspaceSameRow.named Rows.halfspaceSameSpec.vars=true:=by kernel_rfl
theorem zpz:(Rows.halfspaceSameRow.inPlace==Tryz.prog.inPlace 3)=true:=by kernel_rfl
theorem zs0:(Rows.halfspaceSameRow.unfollowed==Tryz.prog.unfollowed 3)=true:=by kernel_rfl
theorem zs1:(Rows.halfspaceSameRow.recurses==Tryz.prog.recurses 3)=true:=by kernel_rfl
theorem zp0:(Rows.halfspaceSameRow.named==Tryz.prog.varsNamed 3)=true:=by kernel_rfl
theorem zp2:Tryz.prog.stopsHeard=true:=by kernel_rfl
theorem zp3:Tryz.prog.mayEnter=true:=by kernel_rfl
theorem zo9:(Rows.halfspaceSameRow.lifted==Tryz.prog.liftsFinal)=true:=by kernel_rfl
theorem zre:(Tryz.prog.make==some Rows.halfspaceSameRow.make)=true:=by kernel_rfl
theorem zrh:(Rows.halfspaceSameRow.plainKeys==Tryz.prog.plainKeys)=true:=by kernel_rfl
theorem zrk:Tryz.pinned.checked.prog.funcNamed Rows.halfspaceSameRow.func=some 3:=by kernel_rfl
theorem zs2:joinedFacts zF 3 Tryz.f3 Rows.halfspaceSameSpec Rows.halfspaceSameRow=true:=by
 unfold joinedFacts;simp only[Bool.and_eq_true]
 repeat' apply And.intro
 all_goals first|with_reducible exact zgh|with_reducible exact zrd|with_reducible exact zsz|with_reducible exact zpz|with_reducible exact zs0|with_reducible exact zs1|with_reducible exact zp0|with_reducible exact zp2|with_reducible exact zp3|with_reducible exact zo9|with_reducible exact zre|with_reducible exact zrh|kernel_rfl
theorem zh3:Rows.HalfspaceSameSaid:=
 OpenClaim.holds_of_wide 3 Tryz.f3 rfl rfl rfl rfl rfl rfl rfl ⟨rfl,rfl,rfl,rfl,rfl⟩ rfl rfl rfl rfl rfl zrk Tryz.func3 zs2
  (of_decide_eq_true (by kernel_rfl)) (by unfold Func.isWrapper;first|(rw[if_pos (by decide+kernel)];kernel_rfl)|(rw[if_neg (by decide+kernel)];exact⟨rfl,rfl⟩))
  (λos started H enc _=>zhq os started H enc)
end
end Go.Proofs.YtgeapfaiacoajaaGreatDoor
