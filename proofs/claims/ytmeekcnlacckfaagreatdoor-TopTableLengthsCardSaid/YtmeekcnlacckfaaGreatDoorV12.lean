/- vector: (spot).dot, Dot, Scale, Cross (given cross). -/
import Derived.Test.YtmeekcnlacckfaaGreatDoorV11
set_option maxRecDepth 100000
set_option maxHeartbeats 8000000
open Go renaming World → zA, Calls → zC
open Go.Lib renaming decDigits → zD
open Go.Proofs.Tryz renaming prog → zF
open Go.World renaming alloc_heap_new → zG, size_alloc → zH
open Go.Joins renaming cell_of_block → zJ, block_setCell → zK
open Go.RowKit renaming intOf → zL
open Go.RowKit.Below renaming refl → zM, heap_setCell → yE
open Nat renaming le_refl → zN, le_trans → zO, zero_le → zR
open List renaming getElem?_eq_getElem → yB
namespace Go.Proofs.YtmeekcnlacckfaaGreatDoor
section
open Go.RowKit Go.Shelf Lib Str Limb
attribute [local go_sem] Oper.semAt_some
theorem zc8 {w v1:zA} {a b c d e f:Value} {s t:TypeId} (hv:v1=(w.alloc (.cells #[a,b,c] s)).alloc (.cells #[d,e,f] t)):
 qL w v1/\v1.heap[w.heap.size]? =some (.cells #[a,b,c] s (0,0))/\v1.heap[w.heap.size+1]? =some (.cells #[d,e,f] t (0,0))/\v1.heap.size=w.heap.size+1+1:=by
 refine⟨by rw[hv];exact((zM _ w).alloc (zN _) _).alloc (by simp) _,by rw[hv];exact(Below.heap_alloc _ _ _ (by simp)).trans (zG w _),?_,by rw[hv];simp⟩;rw[hv];have:=zG (w.alloc (.cells #[a,b,c] s)) (.cells #[d,e,f] t);rw[zH] at this;exact this
theorem zpj (a0 a1 a2 b0 b1 b2 c0 c1 c2 s r:List UInt8) (w:zA)
 (WI:Hid (∀W:zA,qL w W->qJ 292 #[.agg #[St a0,St a1,St a2],.agg #[St b0,St b1,St b2],.func (.func 11) #[] #[]] W (.tuple #[.agg #[St c0,St c1,St c2],.int .i64 0])))
 (D1:Hid (∀W:zA,qL w W->qJ 12 #[St c0,St c1] W (.tuple #[St s,.int .i64 0])))
 (D2:Hid (∀W:zA,qL w W->qJ 12 #[St s,St c2] W (.tuple #[St r,.int .i64 0]))):
 qJ 229 #[.agg #[St a0,St a1,St a2],.agg #[St b0,St b1,St b2]] w (.tuple #[St r,.int .i64 0]):=by
 obtain⟨v1,hv⟩:=zzX ((w.alloc (.cells #[St a0,St a1,St a2] 270)).alloc (.cells #[St b0,St b1,St b2] 270));have b1:=(zc8 hv).1;have HC:=hid (WI.out v1 b1);have B1:=hid b1;have HV:=hid hv.symm;clear hv b1 WI;go_enter Tryz.func229,Tryz.ntmps229;go_wp21;have h9:=HV.out;rw[show(w.alloc (.cells #[.string ⟨a0.toArray⟩,.string ⟨a1.toArray⟩,.string ⟨a2.toArray⟩] 270)).alloc (.cells #[.string ⟨b0.toArray⟩,.string ⟨b1.toArray⟩,.string ⟨b2.toArray⟩] 270)=v1 from h9];clear h9 HV;refine zzM HC.out λr0 hb=>?_;obtain⟨y4,hy⟩:=zzX (r0.alloc (.cells #[St c0,St c1,St c2] 58));have by4:qL r0 y4:=by rw[hy];exact(zM _ r0).alloc (zN _) _
 obtain⟨Y,hY⟩:=zzX r0.heap.size;have hYb:y4.heap[Y]? =some (.cells #[St c0,St c1,St c2] 58 (0,0)):=by rw[hy,hY];exact zG r0 _
 have hx:=hb.trans (by4.mono hb.size);have hB:=B1.out.trans (hx.mono B1.out.size);have B2:=hid hB;have HD:=hid (D1.out y4 hB);have P2:=hid hYb;obtain⟨d0,d1,d2, -, -, -⟩:=zah hYb;have HY:=hid hy.symm;have HYe:=hid hY.symm;clear hb hx hy hY by4 hYb hB B1 D1 HC;rw[<-HY.out] at d0 d1 d2;go_wp21;have h9:=HY.out;rw[show r0.alloc (.cells #[.string ⟨c0.toArray⟩,.string ⟨c1.toArray⟩,.string ⟨c2.toArray⟩] 58)=y4 from h9]
 try rw[HYe.out]
 clear h9 HY HYe d0 d1 d2;refine zzM HD.out λr1 hb=>?_;have hB:=B2.out.trans (hb.mono B2.out.size);have B3:=hid hB;have HD2:=hid (D2.out r1 hB);obtain⟨d0,d1,d2, -, -, -⟩:=zah (zac hb _ _ _ _ P2.out);clear hb hB HD D2 B2 P2;go_wp21;clear d0 d1 d2;refine zzM HD2.out λr2 hb=>?_;have B4:=hid (B3.out.trans (hb.mono B3.out.size));clear hb HD2 B3;go_wp21;go_ret2;exact⟨rfl,B4.out⟩
theorem zll {w v1:zA} {a b c d e f x y z:Value} {s t u:TypeId} (hv:v1=((w.alloc (.cells #[a,b,c] s)).alloc (.cells #[d,e,f] t)).alloc (.cells #[x,y,z] u)):
 qL w v1/\v1.heap[w.heap.size]? =some (.cells #[a,b,c] s (0,0))/\v1.heap[w.heap.size+1]? =some (.cells #[d,e,f] t (0,0))/\v1.heap[w.heap.size+1+1]? =some (.cells #[x,y,z] u (0,0))/\v1.heap.size=w.heap.size+1+1+1:=by
 obtain⟨v0,h0⟩:=zzX ((w.alloc (.cells #[a,b,c] s)).alloc (.cells #[d,e,f] t));obtain⟨h1,h2,h3,h4⟩:=zc8 h0;rw[<-h0] at hv;have hb:qL v0 v1:=by rw[hv];exact(zM _ v0).alloc (zN _) _
 have hc:=zac hb;exact⟨h1.trans (hb.mono h1.size),hc _ _ _ _ h2,hc _ _ _ _ h3,by rw[hv,<-h4];exact zG v0 _,by rw[hv,zH,h4]⟩
section
variable {n X0 Y0:Nat} {z:Array Value} {c:Nat->Array Value} {t:TypeId} {w W W':zA} {q:Nat->Nat} {f:Nat->Bool}
end
section
variable {w W W':zA} {x0 x1 x2 y0 y1 y2 o0 o1 o2:List UInt8} {Y1 Y2:Nat}
end
end
section
open Go.RowKit Go.Shelf Lib Str Limb
theorem zqf:∀args w,(callFunc 11 args).run zF w=.ok (.enter 11 args) w:=enters_of Tryz.func11 (by kernel_rfl) rfl
def sz3 (a b c:Rat) (k:Nat):Prop:=sz a k/\sz b k/\sz c k
theorem sz3.mono {a b c:Rat} {i j:Nat} (h:sz3 a b c i) (hij:i<=j):sz3 a b c j:=⟨h.1.mono hij,h.2.1.mono hij,h.2.2.mono hij⟩
theorem zce (a b c:Rat) (h:sz3 a b c 140) (w:zA) (hw:Wd w):qJ 221 #[.agg #[St (numS a),St (numS b),St (numS c)]] w (.int .i64 0):=
 zj9 _ _ _ (hid λV hV=>zfj a (zd0 (by omega) (by omega) h.1) V hV) (hid λV hV=>zfj b (zd0 (by omega) (by omega) h.2.1) V hV) (hid λV hV=>zfj c (zd0 (by omega) (by omega) h.2.2) V hV) w (hid hw)
theorem zqh (a b c d e f:Rat) (h:sz3 a b c 60) (h':sz3 d e f 60) (w:zA) (hw:Wd w):qJ 356 #[.agg #[St (numS a),St (numS b),St (numS c)],.agg #[St (numS d),St (numS e),St (numS f)]] w (.int .i64 0):=
 zmz _ _ _ _ _ _ w (hid λW hW=>zce a b c (h.mono (by omega)) W (hw.below hW)) (hid λW hW=>zce d e f (h'.mono (by omega)) W (hw.below hW))
theorem zlm (a b c d e f:Rat) (h:sz3 a b c 140) (h':sz3 d e f 140) (w:zA) (hw:Wd w):zC zF 292 #[.agg #[St (numS a),St (numS b),St (numS c)],.agg #[St (numS d),St (numS e),St (numS f)],.func (.func 11) #[] #[]] w λe' w'=>e'=.returned (.tuple #[.agg #[St (numS (a*d)),St (numS (b*e)),St (numS (c*f))],.int .i64 0])/\Below w.heap.size w w':=
 zgo _ _ _ _ _ _ _ _ _ _ zqf w (hid λW hW=>zjf a d 140 140 (by omega) (by omega) (by omega) h.1 h'.1 W (hw.below hW)) (hid λW hW=>zjf b e 140 140 (by omega) (by omega) (by omega) h.2.1 h'.2.1 W (hw.below hW)) (hid λW hW=>zjf c f 140 140 (by omega) (by omega) (by omega) h.2.2 h'.2.2 W (hw.below hW))
end
section
open Go.RowKit Go.Shelf Lib Str Limb Geo
attribute [local go_sem] Oper.semAt_some
section
variable {w W W':zA} {a b c a' b' c':List UInt8} {d d':Value}
end
end
section
open Go.RowKit Go.Shelf Lib Str Limb
attribute [local go_sem] Oper.semAt_some
def h12 (X Y Z:Nat->List UInt8) (D:Nat->Value):Array Value:= #[St (X 0),St (Y 0),St (Z 0),D 0,St (X 1),St (Y 1),St (Z 1),D 1,St (X 2),St (Y 2),St (Z 2),D 2]
section
variable {w W W':zA} {ha hb hc X X':Array Value} {T:Nat} {D:Option Nat}
end
section
variable {w W:zA} {hb hc:Array Value} {T:Nat} {D:Option Nat}
end
section
variable {w W W':zA} {ha hb hc X V:Array Value} {T D O:Nat} {o0 o1 o2:Value}
end
section
variable {w W W':zA} {X Y Z cx cy cz:Nat->List UInt8} {Dv:Nat->Value} {T B k:Nat}
end
theorem SdL.laid (w:zA) (q:Rat) (r:Nat) (x y:ByteArray) (hx:St (numS q)=.string x) (hy:St (zD r)=.string y) (W:zA) (hW:W=w.alloc (.cells #[.string x,.string y] 37)):SdL (.slice (some ⟨w.heap.size,0,none⟩) 1 1) [(q,r)] W:=by
 refine .inr ⟨w.heap.size,0,1,rfl,zN _,by rw[hW,zH];omega,λi t ht=>?_⟩;have hb:W.heap[w.heap.size]? =some (.cells #[.string x,.string y] 37 (0,0)):=by rw[hW];exact zG w _
 match i,ht with
 |0,ht=>
  simp at ht;subst ht;refine⟨?_,?_⟩
  ·rw[zJ hb,hx];rfl
  ·rw[zJ hb,hy];rfl
 |i+1,ht=>simp at ht
end
section
open Go.RowKit Go.Shelf Lib Str Limb
end
section
open Go.RowKit Go.Shelf Lib Str Limb Geo
attribute [local go_sem] Oper.semAt_some
theorem zvs (l:List (Rat×Nat)): -2<sgnL l/\sgnL l<2:=by
 unfold sgnL;split
 ·omega
 ·rcases zg3 l.length (λk=>valZ l (plN k)) with⟨h,_⟩|⟨h,_⟩|h<;>rw[h]<;>omega
end
section
open Go.RowKit Go.Shelf Lib Str Limb
section
variable {A B C:Nat->Rat} {D:Nat->List (Rat×Nat)}
end
section
variable {X Y Z D:List (Rat×Nat)} (hX:PosR X) (hY:PosR Y) (hZ:PosR Z) (hD:PosR D)
include hX hY
end
def dfL (l m:List (Rat×Nat)):List (Rat×Nat):=mkG (l++sclL m (-1))
theorem zmg (x:Rat):0<=x*x:=by
 rcases Rat.le_total (a:=0) (b:=x) with h|h
 ·exact Rat.mul_nonneg h h
 ·have:=Rat.mul_nonneg (show(0:Rat)<= -x by grind) (show(0:Rat)<= -x by grind)
  grind
end
section
open Lib Str
def flQ (q:Rat):Nat:=q.num.natAbs/q.den
theorem zlk {q:Rat} (h:0<=q):((q.num.natAbs:Nat):Rat)=q*(q.den:Rat):=by
 have h1:0<=q.num:=Rat.num_nonneg.2 h;have h2:((q.num.natAbs:Nat):Rat)=((q.num:Int):Rat):=by
  have:((q.num.natAbs:Nat):Int)=q.num:=Int.natAbs_of_nonneg h1;exact_mod_cast congrArg (Int.cast (R:=Rat)) this
 have h3:(q.den:Rat)≠0:=by have:=q.den_pos;exact_mod_cast (show q.den≠0 by omega)
 have:=Rat.num_divInt_den q;rw[Rat.divInt_eq_div] at this;rw[h2];rw[show(((q.den:Nat):Int):Rat)=(q.den:Rat) from rfl] at this;generalize ((q.num:Int):Rat)=a at*
 generalize (q.den:Rat)=d at*
 subst this;rw[Rat.div_mul_cancel h3]
theorem zcq {q:Rat} (h:0<=q):((flQ q:Nat):Rat)<=q/\q<((flQ q:Nat):Rat)+1:=by
 have hd:=q.den_pos;have hd0:(0:Rat)<(q.den:Rat):=by exact_mod_cast hd
 have h1:flQ q*q.den<=q.num.natAbs:=Nat.div_mul_le_self _ _;have h2:q.num.natAbs<(flQ q+1)*q.den:=by
  have:=Nat.lt_div_mul_add hd (a:=q.num.natAbs);unfold flQ;rw[Nat.add_mul,Nat.one_mul];exact this
 have e:=zlk h;have k1:((flQ q:Nat):Rat)*(q.den:Rat)<=q*(q.den:Rat):=by rw[<-e];exact_mod_cast h1
 have k2:q*(q.den:Rat)<(((flQ q:Nat):Rat)+1)*(q.den:Rat):=by rw[<-e];exact_mod_cast h2
 exact⟨Rat.le_of_mul_le_mul_right k1 hd0,Rat.lt_of_mul_lt_mul_right k2 (Rat.le_of_lt hd0)⟩
theorem zqi {q:Rat} {f:Nat} (h:0<=q) (h1:(f:Rat)<=q) (h2:q<(f:Rat)+1):flQ q=f:=by
 obtain⟨k1,k2⟩:=zcq h;have e1:(f:Rat)<((flQ q+1:Nat):Rat):=by grind
 have e2:((flQ q:Nat):Rat)<((f+1:Nat):Rat):=by grind
 have e3:f<flQ q+1:=by exact_mod_cast e1
 have e4:flQ q<f+1:=by exact_mod_cast e2
 omega
def nrQ (v:Rat) (n:Nat):Rat:=((flQ (v*n+mkRat 1 2):Nat):Rat)*(1/(n:Rat))
theorem zpn:mkRat 1 2+mkRat 1 2=1:=by decide+kernel
theorem zqj {x t:Rat} {s:Nat} (ht:t=(s:Rat)*mkRat 1 1000) (h1:t<=x) (h2:x<t+mkRat 1 1000):((flQ t:Nat):Rat)<=x/\x<((flQ t:Nat):Rat)+1:=by
 have hk:(0:Rat)<mkRat 1 1000:=by decide+kernel
 have hs:(0:Rat)<=(s:Rat):=by exact_mod_cast zR s
 have ht0:0<=t:=by rw[ht];exact Rat.mul_nonneg hs (Rat.le_of_lt hk)
 obtain⟨k1,k2⟩:=zcq ht0;refine⟨by grind,?_⟩;have hm:mkRat 1 1000*1000=1:=by decide+kernel
 generalize mkRat 1 1000=m at*
 have e1:(s:Rat)=t*1000:=by rw[ht,Rat.mul_assoc,hm,Rat.mul_one]
 have e2:(s:Rat)<((((flQ t+1)*1000:Nat)):Rat):=by
  rw[e1];push_cast;grind
 have e3:s<(flQ t+1)*1000:=by exact_mod_cast e2
 have e4:((s+1:Nat):Rat)<=((((flQ t+1)*1000:Nat)):Rat):=by exact_mod_cast e3
 push_cast at e4;have e5:((s:Rat)+1)*m<=((((flQ t:Nat)):Rat)+1)*1000*m:=Rat.mul_le_mul_of_nonneg_right e4 (Rat.le_of_lt hk);grind
def thS (q:Rat):Nat:=isq (q.num.natAbs*(1000*1000)/(q.den*(1*1)))
theorem zpp {q:Rat} (h:0<=q):((thS q:Nat):Rat)*((thS q:Nat):Rat)<=q*1000000/\q*1000000<(((thS q:Nat):Rat)+1)*(((thS q:Nat):Rat)+1):=by
 have hd:=q.den_pos;have hd0:(0:Rat)<(q.den:Rat):=by exact_mod_cast hd
 have hs:=zv0 (q.num.natAbs*(1000*1000)/(q.den*(1*1)));have e:thS q=isq (q.num.natAbs*(1000*1000)/(q.den*(1*1))):=rfl;rw[<-e] at hs;generalize thS q=s at*
 simp only[Nat.mul_one] at hs;have en:=zlk h;obtain⟨h1,h2⟩:=hs;have k1:s*s*q.den<=q.num.natAbs*1000000:=(Nat.le_div_iff_mul_le hd).1 h1;have k2:q.num.natAbs*1000000<(s+1)*(s+1)*q.den:=(Nat.div_lt_iff_lt_mul hd).1 h2;have k1':(s:Rat)*(s:Rat)*(q.den:Rat)<=(q.num.natAbs:Rat)*1000000:=by exact_mod_cast k1
 have k2':(q.num.natAbs:Rat)*1000000<((s:Rat)+1)*((s:Rat)+1)*(q.den:Rat):=by exact_mod_cast k2
 rw[en] at k1' k2';constructor
 ·refine Rat.le_of_mul_le_mul_right (c:=(q.den:Rat)) ?_ hd0
  grind
 ·refine Rat.lt_of_mul_lt_mul_right (c:=(q.den:Rat)) ?_ (Rat.le_of_lt hd0)
  grind
def thT (t:Rat×Nat):Rat:=((thS (t.1*t.1*(t.2:Rat)):Nat):Rat)*mkRat 1 1000
theorem zq7 {x:Rat} (hx:0<=x):thT (x,1)<=x/\x<thT (x,1)+mkRat 1 1000:=by
 have hq:0<=x*x*((1:Nat):Rat):=by rw[show((1:Nat):Rat)=1 from rfl,Rat.mul_one];exact Rat.mul_nonneg hx hx
 obtain⟨h1,h2⟩:=zpp hq;unfold thT;dsimp only;generalize thS (x*x*((1:Nat):Rat))=s at*
 rw[show((1:Nat):Rat)=1 from rfl,Rat.mul_one] at h1 h2;have hs:(0:Rat)<=(s:Rat):=by exact_mod_cast zR s
 have hm:mkRat 1 1000*1000=1:=by decide+kernel
 have hm0:(0:Rat)<mkRat 1 1000:=by decide+kernel
 generalize (s:Rat)=S at*
 generalize mkRat 1 1000=m at*
 have a1:S<=x*1000:=by
  refine Rat.not_lt.1 λh=>?_;have:=Rat.mul_lt_mul_of_pos_left h (show(0:Rat)<S by grind);have h3:x*1000*(x*1000)<=S*(x*1000):=Rat.mul_le_mul_of_nonneg_right (Rat.le_of_lt h) (by grind);grind
 have a2:x*1000<S+1:=by
  refine Rat.not_le.1 λh=>?_;have h3:(S+1)*(S+1)<=(S+1)*(x*1000):=Rat.mul_le_mul_of_nonneg_left h (by grind);have h4:(S+1)*(x*1000)<=x*1000*(x*1000):=Rat.mul_le_mul_of_nonneg_right h (by grind);grind
 have b1:S*m<=x*1000*m:=Rat.mul_le_mul_of_nonneg_right a1 (Rat.le_of_lt hm0);have b2:x*1000*m<(S+1)*m:=Rat.mul_lt_mul_of_pos_right a2 hm0;have e:x*1000*m=x:=by rw[Rat.mul_assoc,Rat.mul_comm 1000,hm,Rat.mul_one]
 rw[e] at b1 b2;constructor<;>grind
def nrF (W:Rat):Nat:=flQ (mkRat 1 2+((thS W:Nat):Rat)*mkRat 1 1000)
theorem zxs {W:Rat} (h:0<=W):(1<=nrF W->(((nrF W:Nat):Rat)-mkRat 1 2)*(((nrF W:Nat):Rat)-mkRat 1 2)<=W)/\W<(((nrF W:Nat):Rat)+mkRat 1 2)*(((nrF W:Nat):Rat)+mkRat 1 2):=by
 obtain⟨h1,h2⟩:=zpp h;have hs:(0:Rat)<=((thS W:Nat):Rat):=by exact_mod_cast zR _
 have hm:mkRat 1 1000*1000=1:=by decide+kernel
 have hm0:(0:Rat)<mkRat 1 1000:=by decide+kernel
 have hh:=zpn;have hh0:(0:Rat)<mkRat 1 2:=by decide+kernel
 have h5:mkRat 1 2=500*mkRat 1 1000:=by decide+kernel
 have hS0:0<=mkRat 1 2+((thS W:Nat):Rat)*mkRat 1 1000:=by
  have:=Rat.mul_nonneg hs (Rat.le_of_lt hm0);grind
 obtain⟨k1,k2⟩:=zcq hS0;have ef:nrF W=flQ (mkRat 1 2+((thS W:Nat):Rat)*mkRat 1 1000):=rfl;rw[<-ef] at k1 k2;generalize nrF W=f at*
 generalize thS W=s at*
 have hf:(0:Rat)<=(f:Rat):=by exact_mod_cast zR f
 have g1:(s:Rat)=(s:Rat)*mkRat 1 1000*1000:=by rw[Rat.mul_assoc,hm,Rat.mul_one]
 have g2:(s:Rat)<((1000*f+500:Nat):Rat):=by
  rw[g1];push_cast;grind
 have g3:s+1<=1000*f+500:=by exact_mod_cast g2
 have g4:(s:Rat)+1<=1000*(f:Rat)+500:=by exact_mod_cast g3
 constructor
 ·intro f1
  have f1':(1:Rat)<=(f:Rat):=by exact_mod_cast f1
  have a1:1000*((f:Rat)-mkRat 1 2)<=(s:Rat):=by rw[g1];grind
  have a0:0<=1000*((f:Rat)-mkRat 1 2):=by grind
  have a2:=Rat.mul_le_mul_of_nonneg_left a1 a0;have a3:=Rat.mul_le_mul_of_nonneg_right a1 hs;generalize mkRat 1 2=H at*
  grind
 ·have b0:0<=(s:Rat)+1:=by grind
  have e5:1000*mkRat 1 2=500:=by decide+kernel
  have b1:(s:Rat)+1<=1000*((f:Rat)+mkRat 1 2):=by grind
  have b2:=Rat.mul_le_mul_of_nonneg_left b1 b0;have b3:=Rat.mul_le_mul_of_nonneg_right b1 (show 0<=1000*((f:Rat)+mkRat 1 2) by grind);generalize mkRat 1 2=H at*
  grind
end
section
open Go.RowKit Go.Shelf Lib Str Limb
theorem z0d {r:Nat} (h:zn7 r=(1,r)) (h2:isq r*isq r=r):r=1:=by
 unfold zn7 at h;dsimp only at h;generalize zro prL (1,r)=x at h;by_cases g:isq x.2*isq x.2=x.2
 ·rw[if_pos g] at h
  injection h with h3 h4;exact h4.symm
 ·rw[if_neg g] at h
  rw[h] at g;exact absurd h2 g
structure IrrN (m:Nat):Prop where
 nr:NrmR m
 ne:m≠1
theorem IrrN.lt {m:Nat} (h:IrrN m):1<m:=by have:=h.nr.pos;have:=h.ne;omega
theorem IrrN.al {m:Nat} (h:IrrN m):z5c (m:Rat) 1=false:=by
 rw[Bool.eq_false_iff];intro k;unfold z5c at k;rw[Bool.and_eq_true,decide_eq_true_iff] at k;have e:(m:Rat)/1=(m:Rat):=by grind
 rw[e] at k;exact h.ne (z0d h.nr.nc k.1)
theorem IrrN.al2 {m:Nat} (h:IrrN m):z5c 1 (m:Rat)=false:=by
 rw[Bool.eq_false_iff];intro k;have hp:(0:Rat)<(m:Rat):=by have:=h.nr.pos;exact_mod_cast this
 have:=zu5 (by decide) hp k;rw[h.al] at this;cases this
theorem IrrN.sq {m:Nat} (h:IrrN m) {q c:Rat} (hc:c≠0):q*q≠c*c*(m:Rat):=λe=>by
 have:=zxg (p:=(m:Rat)) (q:=1) (x:=q/c) (by
  have:q/c*(q/c)=q*q/(c*c):=by grind
  rw[this,e];grind)
 rw[h.al] at this;cases this
theorem zzi {a b:Rat} {m:Nat} (ha:a≠0) (hb:b≠0):([(a,1),(b,m)]:List (Rat×Nat)).filter (λc=>!decide (c.1=0))=[(a,1),(b,m)]/\([(b,m),(a,1)]:List (Rat×Nat)).filter (λc=>!decide (c.1=0))=[(b,m),(a,1)]:=by
 simp[ha,hb]
theorem ziz {a b:Rat} {m:Nat} (ha:a≠0) (hb:b≠0) (h:IrrN m):mkG [(a,1),(b,m)]=[(a,1),(b,m)]/\mkG [(b,m),(a,1)]=[(a,1),(b,m)]:=by
 have l1:=h.lt;have g1:gaG [(a,1)] (b,m)=[(a,1),(b,m)]:=z5a _ _ λc hc=>by
  obtain rfl:=List.mem_singleton.1 hc;exact h.al
 have g2:gaG [(b,m)] (a,1)=[(b,m),(a,1)]:=z5a _ _ λc hc=>by
  obtain rfl:=List.mem_singleton.1 hc;exact h.al2
 obtain⟨f1,f2⟩:=zzi (m:=m) ha hb;constructor
 ·unfold mkG keG
  rw[List.foldl_cons,List.foldl_cons,List.foldl_nil,show gaG [] (a,1)=[(a,1)] from rfl,g1,f1];simp[srtS,insS];omega
 ·unfold mkG keG
  rw[List.foldl_cons,List.foldl_cons,List.foldl_nil,show gaG [] (b,m)=[(b,m)] from rfl,g2,f2];simp[srtS,insS];omega
theorem ztf {a b x:Rat} {m:Nat} (hb:b≠0) (h:IrrN m) (hx:x-a≠0) (_:a≠0):dfL (rs x) [(a,1),(b,m)]=[(x-a,1),(-b,m)]:=by
 have hb': -b≠0:=by grind
 unfold dfL;rw[show sclL [(a,1),(b,m)] (-1)=[(-a,1),(-b,m)] from by simp[sclL];constructor<;>grind];by_cases e:x=0
 ·subst e
  rw[zbc,List.nil_append,show(0:Rat)-a= -a by grind];exact(ziz (by grind) hb' h).1
 ·rw[za5 e]
  have g1:=zqc x (-a);have g3:mkG ([(x,1)]++[(-a,1),(-b,m)])=mkG [(x-a,1),(-b,m)]:=by
   unfold mkG keG;rw[List.singleton_append,List.foldl_cons,List.foldl_cons,show gaG [] (x,1)=[(x,1)] from rfl,g1,show x+ -a=x-a by grind];rfl
  rw[g3];exact(ziz hx hb' h).1
theorem zru {b x:Rat} {m:Nat} (hb:b≠0) (h:IrrN m) (hx:x≠0):dfL [(b,m)] (rs x)=[(-x,1),(b,m)]:=by
 unfold dfL;rw[za5 hx,show sclL [(x,1)] (-1)=[(-x,1)] from by simp[sclL];grind];exact(ziz (by grind) hb h).2
theorem zvu {a b:Rat} {m:Nat} (ha:sz a 12) (hb:sz b 12) (h1:a<0) (h2:b<0):sgeL [(a,1),(b,m)]=0/\sgnL [(a,1),(b,m)]= -1:=by
 have hv:=zte a b m ha hb 64
 obtain⟨-,f2⟩:=zn6 (l:=[(a,1),(b,m)]) (by simp) (λt ht=>by
  rcases List.mem_cons.1 ht with rfl|ht
  ·dsimp only;grind
  ·obtain rfl:=List.mem_singleton.1 ht
   dsimp only;grind)
 have hlen:(([(a,1),(b,m)]:List (Rat×Nat)).length:Int)=2:=rfl;rw[hlen] at f2;refine f2 ?_;have hR:(0:Rat)<=((rtF m 64:Nat):Rat):=by exact_mod_cast zR _
 have hd:(a.den:Rat)<=10^12:=by
  have:((a.den:Nat):Rat)<=((10^12:Nat):Rat):=by exact_mod_cast Nat.le_of_lt ha.2
  rw[show((10^12:Nat):Rat)=10^12 by decide+kernel] at this;exact this
 have hn:a*(a.den:Rat)<= -1:=by
  rw[<-zrr a];have h3:a.num<0:=by
   refine Int.lt_of_not_ge λhc=>?_;have:=Rat.num_nonneg.1 hc;grind
  have h4:a.num<= -1:=by omega
  have h5:((a.num:Int):Rat)<=((-1:Int):Rat):=by exact_mod_cast h4
  exact h5
 have hd0:(0:Rat)<(a.den:Rat):=by exact_mod_cast a.den_pos
 have k1:a*10^12<= -1:=by
  have:=Rat.mul_nonneg (show 0<= -a by grind) (show 0<=10^12-(a.den:Rat) by grind);grind
 have k2:=Rat.mul_nonneg (show 0<= -b by grind) hR;have e64:((10^64:Nat):Rat)=10^12*10^52:=by decide+kernel
 have p52:(3*10^12:Rat)+2<10^52:=by decide+kernel
 have p0:(0:Rat)<=10^52:=by decide+kernel
 rw[e64] at hv;have k3:=Rat.mul_le_mul_of_nonneg_right k1 p0;have:((valZ [(a,1),(b,m)] 64+2:Int):Rat)<((0:Int):Rat):=by
  rw[Rat.intCast_add];show((valZ [(a,1),(b,m)] 64:Int):Rat)+2<0;generalize ((valZ [(a,1),(b,m)] 64:Int):Rat)=V at*
  generalize ((rtF m 64:Nat):Rat)=R at*
  generalize (10:Rat)^52=g at*
  generalize (10:Rat)^12=h at*
  grind
 exact_mod_cast this
theorem zxt {a b x:Rat} {m:Nat} (ha:a≠0) (hb:0<b) (sb:sz b 12) (h:IrrN m) (sx:sz (x-a) 12) (hx:x-a≠0):
 sgeL (dfL (rs x) [(a,1),(b,m)])=0/\(x-a<0->sgnL (dfL (rs x) [(a,1),(b,m)])= -1)/\((x-a)*(x-a)<=b*b*(m:Rat)->sgnL (dfL (rs x) [(a,1),(b,m)])= -1)/\(0<x-a->b*b*(m:Rat)<=(x-a)*(x-a)->sgnL (dfL (rs x) [(a,1),(b,m)])=1):=by
 have hb0:b≠0:=by grind
 rw[ztf hb0 h hx ha];have sb':sz (-b) 12:=⟨by rw[show(-b).num= -b.num from rfl,Int.natAbs_neg];exact sb.1,sb.2⟩;have hi:=h.sq (q:=x-a) hb0;have e: -b* -b*(m:Rat)=b*b*(m:Rat):=by grind
 rcases(show x-a<0\/0<x-a by grind) with g|g
 ·have:=zvu (m:=m) sx sb' g (by grind)
  exact⟨this.1,λ_=>this.2,λ_=>this.2,λh=>absurd g (by grind)⟩
 ·obtain⟨f1,f2⟩:=zo7 (m:=m) sx sb' (.inr ⟨g,by grind⟩)
  rw[e,if_neg (by grind)] at f1 f2;rcases(show(x-a)*(x-a)<b*b*(m:Rat)\/b*b*(m:Rat)<(x-a)*(x-a) by grind) with k|k
  ·obtain⟨k1,k2⟩:=f1 k
   exact⟨k1,λh=>absurd g (by grind),λ_=>k2,λ_ h=>absurd k (by grind)⟩
  ·obtain⟨k1,k2⟩:=f2 k
   exact⟨k1,λh=>absurd g (by grind),λh=>absurd k (by grind),λ_ _=>k2⟩
theorem zxu {b x:Rat} {m:Nat} (hb:0<b) (sb:sz b 12) (h:IrrN m) (sx:sz x 12) (hx:0<x):
 sgeL (dfL [(b,m)] (rs x))=0/\(x*x<=b*b*(m:Rat)->sgnL (dfL [(b,m)] (rs x))=1)/\(b*b*(m:Rat)<=x*x->sgnL (dfL [(b,m)] (rs x))= -1):=by
 have hb0:b≠0:=by grind
 rw[zru hb0 h (by grind)];have sx':sz (-x) 12:=⟨by rw[show(-x).num= -x.num from rfl,Int.natAbs_neg];exact sx.1,sx.2⟩;have hi:=h.sq (q:=x) hb0;have e: -x* -x=x*x:=by grind
 obtain⟨f1,f2⟩:=zo7 (m:=m) sx' sb (.inl ⟨by grind,hb⟩);rw[e,if_pos hb] at f1 f2;rcases(show x*x<b*b*(m:Rat)\/b*b*(m:Rat)<x*x by grind) with k|k
 ·obtain⟨k1,k2⟩:=f1 k
  exact⟨k1,λ_=>k2,λh=>absurd k (by grind)⟩
 ·obtain⟨k1,k2⟩:=f2 k
  exact⟨k1,λh=>absurd k (by grind),λ_=>k2⟩
end
section
open Go.RowKit Go.Shelf Lib Str Limb
attribute [local go_sem] Oper.semAt_some
theorem zkj (c:ByteArray) (r u s1 s2 x:List UInt8) (h0:0<c.size) (hb:(((c[0]'h0).toNat:Int)==45)=false)
 (M:Hid (qK 11 #[.string c,.string c] (.tuple #[St s1,.int .i64 0])))
 (M2:Hid (qK 11 #[St s1,St r] (.tuple #[St s2,.int .i64 0])))
 (F:Hid (qK 322 #[St s2,St u] (.tuple #[St x,.int .i64 0])))
 (w:zA) (HW:Hid (Wd w)):
 qJ 279 #[.agg #[.string c,St r],St u] w (.tuple #[St x,.int .i64 0]):=by
 obtain⟨v1,hv⟩:=zzX (w.alloc (.cells #[.string c,St r] 37));have a1:qL w v1:=by rw[hv];exact(zM _ w).alloc (zN _) _
 have A1:v1.heap[w.heap.size]? =some (.cells #[.string c,St r] 37 (0,0)):=by rw[hv];exact zG w _
 have k0:v1.cell? ⟨w.heap.size,0,none⟩=some (.string c):=by rw[zJ A1];rfl
 rw[hv] at k0;have HV1:=hid hv.symm;have E1:=hid a1;have B1:=hid A1;clear hv a1 A1;go_enter Tryz.func279,Tryz.ntmps279;go_wp21;rw[HV1.out];clear k0 HV1;refine zzM (M.out v1 (HW.out.below E1.out)) λy1 hb1=>?_;have E2:=hid (E1.out.trans (hb1.mono E1.out.size));have B2:=hid (zac hb1 _ _ _ _ B1.out);clear hb1 E1 B1;have k1:y1.cell? ⟨w.heap.size,1,none⟩=some (St r):=by rw[zJ B2.out];rfl
 go_wp21;refine zzM (M2.out y1 (HW.out.below E2.out)) λy2 hb1=>?_;have E3:=hid (E2.out.trans (hb1.mono E2.out.size));have B3:=hid (zac hb1 _ _ _ _ B2.out);clear hb1 k1 E2 B2;go_wp21;refine zzM (F.out y2 (HW.out.below E3.out)) λy3 hb1=>?_;have E4:=hid (E3.out.trans (hb1.mono E3.out.size));have B4:=hid (zac hb1 _ _ _ _ B3.out);clear hb1 E3 B3;have k0:y3.cell? ⟨w.heap.size,0,none⟩=some (.string c):=by rw[zJ B4.out];rfl
 go_wp21;go_ret2;exact⟨rfl,E4.out⟩
theorem zk8 (v:Value) (l1 l2:List UInt8) (w:zA)
 (K:Hid (∀W:zA,qL w W->qJ 133 #[v] W (.int .i64 0)))
 (O:Hid (∀W:zA,qL w W->qJ 134 #[v,.string ⟨#[49]⟩] W (.tuple #[.agg #[St l1,St l2],.int .i64 0]))):
 qJ 69 #[v,.int .i64 0] w (.tuple #[.agg #[St l1,St l2],.int .i64 0]):=by
 have UN:∀W:zA,qJ 135 #[.int .i64 0] W (.string ⟨#[49]⟩):=λW=>by
  go_enter Tryz.func135,Tryz.ntmps135;go_wp21;go_ret;exact⟨rfl,zM _ _⟩
 have HUN:=hid UN;clear UN;obtain⟨v1,hv⟩:=zzX (w.alloc (.cells #[St [],St []] 110));have a1:qL w v1:=by rw[hv];exact(zM _ w).alloc (zN _) _
 have R1:v1.heap[w.heap.size]? =some (.cells #[St [],St []] 110 (0,0)):=by rw[hv];exact zG w _
 have HV1:=hid hv.symm;have E1:=hid a1;have B1:=hid R1;clear hv a1 R1;go_enter Tryz.func69,Tryz.ntmps69;go_wp21;have h9:=HV1.out;rw[show w.alloc (.cells #[.string ⟨#[]⟩,.string ⟨#[]⟩] 110)=v1 from h9];clear h9 HV1;refine zzM (K.out v1 E1.out) λw1 hb1=>?_;have E2:=hid (E1.out.trans (hb1.mono E1.out.size));have B2:=hid (zac hb1 _ _ _ _ B1.out);clear hb1 E1 B1;go_wp21;refine zzM (HUN.out w1) λw2 hb2=>?_;have E3:=hid (E2.out.trans (hb2.mono E2.out.size));have B3:=hid (zac hb2 _ _ _ _ B2.out);clear hb2 E2 B2;go_wp21;refine zzM (O.out w2 E3.out) λw6 hb6=>?_;have E7:=hid (E3.out.trans (hb6.mono E3.out.size));have B7:=hid (zac hb6 _ _ _ _ B3.out);clear hb6 E3 B3;have c0:w6.cell? ⟨w.heap.size,0,none⟩=some (St []):=by rw[zJ B7.out];rfl
 have c1:w6.cell? ⟨w.heap.size,1,none⟩=some (St []):=by rw[zJ B7.out];rfl
 have f0:=Go.Joins.unfrozen_of_block B7.out 0;have f1:=Go.Joins.unfrozen_of_block B7.out 1;go_wp21;have hB7:=E7.out;refine bodyPost_ret (v:=.tuple #[.agg #[St l1,St l2],.int .i64 0]) (by simp[results,Tryz.results69,go_sem,c0,c1]) rfl ⟨rfl,?_⟩
 repeat(first|exact hB7|refine Below.setCell ?_ (by simp) _)
theorem zlr (v:Value) (u inv:List UInt8) (L:List (Rat×Nat)) (n:Int) (hn:0<n) (w:zA)
 (K:Hid (∀W:zA,qL w W->qJ 70 #[v] W (.int .i64 0)))
 (C:Hid (∀W:zA,qL w W->qJ 54 #[St u] W (.int .i64 0)))
 (P:Hid (∀W:zA,qL w W->qJ 27 #[St u,.string ⟨#[48]⟩] W (.tuple #[.int .i64 n,.int .i64 0])))
 (D:Hid (∀W:zA,qL w W->qJ 101 #[.string ⟨#[49]⟩,St u] W (.tuple #[St inv,.int .i64 0])))
 (S:Hid (∀W:zA,qL w W->zC zF 20 #[v,St inv] W λe w'=>∃q k c,e=.returned (.tuple #[.slice q k c,.int .i64 0])/\Below W.heap.size W w'/\SdL (.slice q k c) L w')):
 zC zF 152 #[v,St u] w λe w'=>∃q k c,e=.returned (.tuple #[.slice q k c,.int .i64 0])/\Below w.heap.size w w'/\SdL (.slice q k c) L w':=by
 have CK:∀W:zA,qL w W->qJ 226 #[v,St u] W (.int .i64 0):=λW hW=>by
  have B0:=hid hW;clear hW;have D0:=hid (zM W.heap.size W);go_enter Tryz.func226,Tryz.ntmps226;go_wp21;refine zzM (K.out W B0.out) λw1 hb=>?_;have D1:=hid hb;have B1:=hid (B0.out.trans (hb.mono B0.out.size));clear hb;go_wp21;refine zzM (C.out w1 B1.out) λw2 hb=>?_;have D2:=hid (D1.out.trans (hb.mono D1.out.size));have B2:=hid (B1.out.trans (hb.mono B1.out.size));clear hb;go_wp21;refine zzM (P.out w2 B2.out) λw3 hb=>?_;have D3:=hid (D2.out.trans (hb.mono D2.out.size));clear hb;have hn1:decide (n<=0)=false:=decide_eq_false (by omega);go_wp21;go_ret;exact⟨rfl,D3.out⟩
 have HCK:=hid CK;clear CK K C P;have D0:=hid (zM w.heap.size w);go_enter Tryz.func152,Tryz.ntmps152;go_wp21;refine zzM (HCK.out w D0.out) λw1 hb=>?_;have B1:=hid hb;clear hb;go_wp21;refine zzM (D.out w1 B1.out) λw2 hb=>?_;have B2:=hid (B1.out.trans (hb.mono B1.out.size));clear hb;go_wp21;refine(S.out w2 B2.out).mono ?_;rintro e w3 ⟨q,k,c,rfl,hb,hs⟩;have B3:=hid (B2.out.trans (hb.mono B2.out.size));have HS:=hid hs;clear hb hs;go_wp21;go_ret2;exact⟨_,_,_,rfl,B3.out,HS.out⟩
theorem z8m (s:ByteArray) (n d q:Int) (hn:0<=n) (hd:0<d) (hq:n.tdiv d=q) (hn2:n<100000000) (hd2:d<100000000) (hq2:0<=q/\q<=n)
 (N:Hid (∀W:zA,qJ 79 #[.string s] W (.tuple #[.agg #[.int .i64 n,.int .i64 d],.bool true]))) (w:zA) (HW:Hid (Wd w)):
 qJ 148 #[.string s] w (.tuple #[St (itoa q),.int .i64 0]):=by
 have hit:=λW hW=>zb3 q (by omega) (by omega) W hW;have w1:IntKind.i64.wrap (n.tdiv d)=q:=by rw[hq];exact IntWalk.i64_in _ (by omega)
 have w2:IntKind.i64.wrap (n.tmod d)=n.tmod d:=by
  rw[Int.tmod_eq_emod_of_nonneg hn];have h1:=Int.emod_lt_of_pos n hd;have h2:=Int.emod_nonneg n (show d≠0 by omega);exact IntWalk.i64_in _ (by omega)
 have hrn:decide (n%d<0)=false:=decide_eq_false (by have:=Int.emod_nonneg n (show d≠0 by omega);omega);have hrn2:decide (n.tmod d<0)=false:=by rw[Int.tmod_eq_emod_of_nonneg hn];exact hrn
 have hd0:¬d=0:=by omega
 have HIT:=hid hit;clear hit hq hq2;go_enter Tryz.func148,Tryz.ntmps148;go_wp21;refine zzM (N.out w) λy1 hb1=>?_;obtain⟨v1,hv⟩:=zzX (y1.alloc (.cells #[.int .i64 n,.int .i64 d] 80));have a1:qL y1 v1:=by rw[hv];exact(zM _ y1).alloc (zN _) _
 have A1:v1.heap[y1.heap.size]? =some (.cells #[.int .i64 n,.int .i64 d] 80 (0,0)):=by rw[hv];exact zG y1 _
 have k0:v1.cell? ⟨y1.heap.size,0,none⟩=some (.int .i64 n):=by rw[zJ A1];rfl
 have k1:v1.cell? ⟨y1.heap.size,1,none⟩=some (.int .i64 d):=by rw[zJ A1];rfl
 rw[hv] at k0 k1;have E1:=hid (hb1.trans (a1.mono hb1.size));have HV:=hid hv.symm;clear hv a1 A1 hb1;go_wp21;rw[HV.out];clear k0 k1 HV;refine zzM (HIT.out v1 (HW.out.below E1.out)) λy2 hb2=>?_;have E2:=hid (E1.out.trans (hb2.mono E1.out.size));clear hb2;go_wp21;go_ret2;exact⟨rfl,E2.out⟩
theorem zls (v1 v2:Value) (a b:Rat) (ha:sz a 60) (hb:sz b 60) (hab:sz (a-b) 60) (w:zA) (hw:Hw w) (h1:SdL v1 (rs a) w) (h2:SdL v2 (rs b) w):
 qJ 14 #[v1,v2] w (.tuple #[.int .i64 (Geo.cmpR a b),.int .i64 0]):=by
 rw[show Geo.cmpR a b=Geo.cmpR (a-b) 0 from Geo.zop _ _ _ _ (by grind)];refine zzh v1 v2 (rs (a-b)).length _ (λq d W=>SdL (.slice q (rs (a-b)).length d) (rs (a-b)) W) w (hid ?_) (hid λW q d hW h=>zli _ _ hab W (hw.below hW).wd (hw.below hW).sw h);refine(zrz v1 v2 a b ha hb hab w hw.d hw.p h1 h2).mono λe w' ⟨v,e1,hb',h⟩=>?_;obtain⟨q,c,rfl, -⟩:=h.slice;exact⟨q,c,e1,hb',h⟩
theorem zpz {W:zA} {b:Nat} {a:Rat} (c0:W.cell? ⟨b,0,none⟩=some (St (numS a))) (c1:W.cell? ⟨b,1,none⟩=some (.string ⟨#[49]⟩)):SdL (.slice (some ⟨b,0,none⟩) 1 1) [(a,1)] W:=by
 have d1:St (zD 1)=.string ⟨#[49]⟩:=by rw[zae (by omega)];rfl
 refine .inr ⟨_,0,1,rfl,by simp,zbe c0,λi t ht=>?_⟩
 match i,ht with
 |0,ht=>
  injection ht with ht;subst ht;exact⟨c0,by rw[d1];exact c1⟩
theorem zf7 (v:Value) (x a:Rat) (hx:sz x 60) (ha:sz a 60) (hxa:sz (a-x) 60) (w:zA) (hw:Hw w) (hv:SdL v (rs x) w):
 qJ 214 #[v,St (numS a)] w (.tuple #[.int .i64 (Geo.cmpR x a),.int .i64 0]):=by
 have hc:=Geo.zaw a x;rw[Geo.zmy a x];refine z5k v (numS a) (rs a).length (Geo.cmpR a x) (by omega) (by omega) (λq d W=>SdL (.slice q (rs a).length d) (rs a) W) w (hid λW hW c0 c1=>?_) (hid λW q d hW h=>zls _ _ a x ha hx hxa W (hw.below hW) h (hv.below hW));have hW':=hw.below hW;refine(zlh _ a ha W hW'.d hW'.p (zpz c0 c1)).mono λe w' ⟨v,e1,hb',h⟩=>?_;obtain⟨q,c,rfl, -⟩:=h.slice;exact⟨q,c,e1,hb',h⟩
theorem zgr (q:Rat) (h0:0<=q) (h:sz q 8) (w:zA) (hw:Wd w):
 qJ 148 #[St (numS q)] w (.tuple #[St (numS ((flQ q:Nat):Rat)),.int .i64 0]):=by
 have hn:0<=q.num:=Rat.num_nonneg.2 h0;have hd:=q.den_pos;have hq:q.num.tdiv (q.den:Int)=((flQ q:Nat):Int):=by
  unfold flQ;rw[show q.num=((q.num.natAbs:Nat):Int) by omega];rfl
 have hle:flQ q<=q.num.natAbs:=Nat.div_le_self _ _;have h1:=h.1;have h2:=h.2;have:=z8m ⟨(numS q).toArray⟩ q.num q.den (flQ q:Nat) hn (by omega) hq (by omega) (by omega) ⟨by omega,by omega⟩ (hid λW=>zbm q ⟨(zok (k:=8) (by omega) h).1,(zaf q.den 8 (by omega)).2 h.2⟩ W) w (hid hw);rw[zhe,<-Str.zad];exact this
theorem zmh (v1 v2:Value) (l1 l2:List (Rat×Nat)) (ok1:SdOk l1) (ok2:SdOk l2) (hlen:l1.length+l2.length<=12) (hs:∀t∈dfL l1 l2,sz t.1 60) (w:zA) (hw:Hw w) (h1:SdL v1 l1 w) (h2:SdL v2 l2 w):
 qJ 14 #[v1,v2] w (.tuple #[.int .i64 (sgnL (dfL l1 l2)),.int .i64 (sgeL (dfL l1 l2))]):=by
 have ld:(sclL l2 (-1)).length=l2.length:=by simp[sclL]
 refine(zjn v1 v2 (sgnL (dfL l1 l2)) (sgeL (dfL l1 l2)) (λu W=>SdL u (dfL l1 l2) W) True False w
  (hid ((z6n v1 v2 l1 l2 ok1 ok2 hlen w hw.d hw.p h1 h2).mono λe w' ⟨q,n,c,r,e1,e2,e3⟩=>⟨q,n,c,r,e1,e2,e3.elim (λh=>.inl ⟨h.1,h.2.1,trivial⟩) (λh=>absurd hs h.2.2)⟩))
  (hid λW u _ hW hu=>z0a u _ (z0m ok1 (zvn ok2) (by omega) hs) W (hw.below hW).wd (hw.below hW).sw hu)).mono λe w' ⟨m,r,e1,e2,e3⟩=>?_
 rcases e3 with⟨_,_,h⟩|⟨rfl,rfl, -⟩
 ·exact h.elim
 ·exact⟨e1,e2⟩
theorem zs3 (v:Value) (l:List (Rat×Nat)) (a:Rat) (ok:SdOk l) (hl:l.length<=11) (ha:sz a 60) (hs:∀t∈dfL (rs a) l,sz t.1 60) (he:sgeL (dfL (rs a) l)=0) (w:zA) (hw:Hw w) (hv:SdL v l w):
 qJ 214 #[v,St (numS a)] w (.tuple #[.int .i64 (-(sgnL (dfL (rs a) l))),.int .i64 0]):=by
 have hr:=zvs (dfL (rs a) l);refine z5k v (numS a) (rs a).length (sgnL (dfL (rs a) l)) hr.1 hr.2 (λq d W=>SdL (.slice q (rs a).length d) (rs a) W) w (hid λW hW c0 c1=>?_) (hid λW q d hW h=>?_)
 ·have hW':=hw.below hW
  refine(zlh _ a ha W hW'.d hW'.p (zpz c0 c1)).mono λe w' ⟨v,e1,hb',h⟩=>?_;obtain⟨q,c,rfl, -⟩:=h.slice;exact⟨q,c,e1,hb',h⟩
 ·have:=zmh _ v (rs a) l (zbz ha) ok (by have:=zcz a;omega) hs W (hw.below hW) h (hv.below hW)
  rw[he] at this;exact this
theorem zjh (a b:Int) (p:List UInt8) (ha:1<=a/\a<=48) (hb:1<=b/\b<=48)
 (O:Hid (qK 26 #[.int .i64 a,.int .i64 b] (.tuple #[St p,.int .i64 0]))) (w:zA) (HW:Hid (Wd w)):
 qJ 22 #[.int .i64 a,.int .i64 b] w (.tuple #[St p,.int .i64 0]):=by
 have CK:qJ 75 #[.int .i64 a,.int .i64 b] w (.int .i64 0):=by
  have h1:decide (min a b<1)=false:=decide_eq_false (by omega);have h2:decide (48<max a b)=false:=decide_eq_false (by omega);go_enter Tryz.func75,Tryz.ntmps75;go_wp21;go_ret;exact⟨rfl,zM _ _⟩
 have HCK:=hid CK;clear CK ha hb;go_enter Tryz.func22,Tryz.ntmps22;go_wp21;refine zzM HCK.out λw1 hb=>?_;have B1:=hid hb;clear hb;go_wp21;refine zzM (O.out w1 (HW.out.below B1.out)) λw2 hb=>?_;have B2:=hid (B1.out.trans (hb.mono B1.out.size));clear hb;go_wp21;go_ret2;exact⟨rfl,B2.out⟩
theorem zm1 (v:Value) (N:Int) (u x:List UInt8) (L:List (Rat×Nat)) (s:Int) (hs:0<=s) (hN:1<=N/\N<=64) (w:zA)
 (K:Hid (∀W:zA,qL w W->qJ 70 #[v] W (.int .i64 0)))
 (G:Hid (∀W:zA,qL w W->qJ 17 #[v] W (.tuple #[.int .i64 s,.int .i64 0])))
 (O:Hid (∀W:zA,qL w W->qJ 26 #[.int .i64 1,.int .i64 N] W (.tuple #[St u,.int .i64 0])))
 (S:Hid (∀W:zA,qL w W->zC zF 20 #[v,.string ⟨#[49,50]⟩] W λe w'=>∃q k c,e=.returned (.tuple #[.slice q k c,.int .i64 0])/\Below W.heap.size W w'/\SdL (.slice q k c) L w'))
 (R:Hid (∀(W:zA) (v:Value),qL w W->SdL v L W->qJ 87 #[v,St u] W (.tuple #[St x,.int .i64 0]))):
 qJ 24 #[v,.int .i64 N] w (.tuple #[St x,.int .i64 0]):=by
 have UN:∀W:zA,qL w W->qJ 85 #[.int .i64 N] W (.tuple #[St u,.bool true]):=λW hW=>by
  have HO:=hid (O.out W hW);have h1:decide (N<1)=false:=decide_eq_false (by omega);have h2:decide (64<N)=false:=decide_eq_false (by omega);clear hW O K G S R;go_enter Tryz.func85,Tryz.ntmps85;go_wp21;refine zzM HO.out λw1 hb=>?_;have B1:=hid hb;clear hb;go_wp21;go_ret2;exact⟨rfl,B1.out⟩
 have HUN:=hid UN;clear UN O;have CK:∀W:zA,qL w W->qJ 76 #[v,.int .i64 N] W (.tuple #[St u,.int .i64 0]):=λW hW=>by
  have B0:=hid hW;have D0:=hid (zM W.heap.size W);have h1:decide (s<0)=false:=decide_eq_false (by omega);clear hW S R;go_enter Tryz.func76,Tryz.ntmps76;go_wp21;refine zzM (K.out W B0.out) λw1 hb=>?_;have D1:=hid hb;have B1:=hid (B0.out.trans (hb.mono B0.out.size));clear hb;go_wp21;refine zzM (G.out w1 B1.out) λw2 hb=>?_;have D2:=hid (D1.out.trans (hb.mono D1.out.size));have B2:=hid (B1.out.trans (hb.mono B1.out.size));clear hb;go_wp21;refine zzM (HUN.out w2 B2.out) λw3 hb=>?_;have D3:=hid (D2.out.trans (hb.mono D2.out.size));clear hb;go_wp21;go_ret2;exact⟨rfl,D3.out⟩
 have HCK:=hid CK;clear CK K G HUN;have SH:∀W:zA,qL w W->zC zF 77 #[v,St u] W λe w'=>∃q k c,e=.returned (.tuple #[.slice q k c,St x,.int .i64 0])/\Below W.heap.size W w':=λW hW=>by
  have B0:=hid hW;clear hW;go_enter Tryz.func77,Tryz.ntmps77;go_wp21;refine(S.out W B0.out).mono ?_;rintro e w1 ⟨q,k,c,rfl,hb,hs⟩;have D1:=hid hb;have B1:=hid (B0.out.trans (hb.mono B0.out.size));have HS:=hid hs;clear hb hs;go_wp21;refine zzM (R.out w1 _ B1.out HS.out) λw2 hb=>?_;have D2:=hid (D1.out.trans (hb.mono D1.out.size));clear hb;go_wp21;go_ret3;exact⟨_,_,_,rfl,D2.out⟩
 have HSH:=hid SH;clear SH S R;have D0:=hid (zM w.heap.size w);go_enter Tryz.func24,Tryz.ntmps24;go_wp21;refine zzM (HCK.out w D0.out) λw1 hb=>?_;have B1:=hid hb;clear hb;go_wp21;refine(HSH.out w1 B1.out).mono ?_;rintro e w2 ⟨q,k,c,rfl,hb⟩;have B2:=hid (B1.out.trans (hb.mono B1.out.size));clear hb;go_wp21;go_ret2;exact⟨rfl,B2.out⟩
theorem zk9 (p:Option Addr) (n cap:Nat) (hn:n<=256) (X Y x s:Nat->List UInt8) (u fine low z:List UInt8) (hs0:s 0=[48])
 (M:Hid (qK 11 #[St u,.string ⟨#[49,47,49,48,48,48]⟩] (.tuple #[St fine,.int .i64 0])))
 (T:Hid (∀i,i<n->qK 279 #[.agg #[St (X i),St (Y i)],St fine] (.tuple #[St (x i),.int .i64 0])))
 (A:Hid (∀i,i<n->qK 12 #[St (s i),St (x i)] (.tuple #[St (s (i+1)),.int .i64 0])))
 (F:Hid (qK 280 #[St (s n),St u] (.tuple #[St low,.int .i64 0])))
 (S:Hid (qK 10 #[St low,St u] (.tuple #[St z,.int .i64 0])))
 (w:zA) (HW:Hid (Wd w)) (C:Hid (∀i,i<n->∃b off,p=some ⟨b,off,none⟩/\w.cell? ⟨b,off+i*2,none⟩=some (St (X i))/\w.cell? ⟨b,off+i*2+1,none⟩=some (St (Y i)))):
 qJ 213 #[.slice p n cap,St u] w (.tuple #[St z,.int .i64 0]):=by
 have hs1:Value.string ⟨#[48]⟩=St (s 0):=by rw[hs0]
 have H0:=hid hs1;clear hs0 hs1;go_enter Tryz.func213,Tryz.ntmps213;go_wp21;refine zzM (M.out w HW.out) λw1 hb1=>?_;have D0:=hid hb1;clear hb1 M;go_wp21;go_loopw [8,24] (λv i wr=>∃(k:Nat),k<=n/\v=St (s k)/\i=.int .i64 (k:Int)/\Hid (qL w wr))
  (λ_ i _=>n-(zL i).toNat)
 case atStart=>exact⟨0,zR _,H0.out,rfl,D0⟩
 case round=>
  clear D0;obtain⟨k,hk,rfl,rfl,D1⟩:=hrel;by_cases hlt:k<n
  ·obtain⟨b,off,rfl,c0,c1⟩:=C.out k hlt
   have t0:=zai D1.out c0;have t1:=zai D1.out c1;have T1:=hid (T.out k hlt);have A1:=hid (A.out k hlt);have HS:=hid (rfl:s (k+1)=s (k+1));obtain⟨v1,hv⟩:=zzX (wr.alloc (.cells #[St (X k),St (Y k)] 37));have a1:qL wr v1:=by rw[hv];exact(zM _ wr).alloc (zN _) _
   have A2:v1.heap[wr.heap.size]? =some (.cells #[St (X k),St (Y k)] 37 (0,0)):=by rw[hv];exact zG wr _
   have k0:v1.cell? ⟨wr.heap.size,0,none⟩=some (St (X k)):=by rw[zJ A2];rfl
   have k1:v1.cell? ⟨wr.heap.size,1,none⟩=some (St (Y k)):=by rw[zJ A2];rfl
   rw[hv] at k0 k1;have HV1:=hid hv.symm;have E1:=hid (D1.out.trans (a1.mono D1.out.size));clear hv a1 A2 c0 c1 C T A F S;generalize X k=xk at*
   generalize Y k=yk at*
   generalize x k=zk at*
   generalize hsk:s k=sk at*
   generalize hsk1:s (k+1)=sk1 at*
   have HK:=hid hsk;have HK1:=hid hsk1;clear hsk hsk1 HS;go_wp21;rw[HV1.out];clear k0 k1 HV1 t0 t1;refine zzM (T1.out v1 (HW.out.below E1.out)) λw2 hb2=>?_;have E2:=hid (E1.out.trans (hb2.mono E1.out.size));clear hb2 E1 T1;go_wp21;refine zzM (A1.out w2 (HW.out.below E2.out)) λw3 hb3=>?_;have E3:=hid (E2.out.trans (hb3.mono E2.out.size));clear hb3 E2 A1;go_wp21;go_roundw
   case rel=>exact⟨k+1,by omega,by rw[HK1.out],by go_num,E3⟩
   case measure=>simp[zL];omega
  ·have hkn:k=n:=by omega
   subst hkn;have F1:=hid F.out;have S1:=hid S.out;clear C T A F S;generalize s k=sk at*
   go_wp21;refine zzM (F1.out wr (HW.out.below D1.out)) λw4 hb4=>?_;have E5:=hid (D1.out.trans (hb4.mono D1.out.size));clear hb4 D1 F1;go_wp21;refine zzM (S1.out w4 (HW.out.below E5.out)) λw5 hb5=>?_;have E6:=hid (E5.out.trans (hb5.mono E5.out.size));clear hb5 E5 S1;go_wp21;go_ret2;exact⟨rfl,E6.out⟩
structure EncQ (w:zA) (v:Value) (u l0 l1 l2:List UInt8) (m:Int):Prop where
 nr:∀W:zA,qL w W->qJ 213 #[v,St u] W (.tuple #[St l0,.int .i64 0])
 o0:∀W:zA,qL w W->qJ 214 #[v,St l0] W (.tuple #[.int .i64 1,.int .i64 0])
 a1:∀W:zA,qL w W->qJ 12 #[St l0,St u] W (.tuple #[St l1,.int .i64 0])
 o1:∀W:zA,qL w W->qJ 214 #[v,St l1] W (.tuple #[.int .i64 m,.int .i64 0])
 a2:∀W:zA,qL w W->qJ 12 #[St l1,St u] W (.tuple #[St l2,.int .i64 0])
 o2:m=1->∀W:zA,qL w W->qJ 214 #[v,St l2] W (.tuple #[.int .i64 (-1),.int .i64 0])
 hm:m=0\/m=1
theorem zm3 (p:Option Addr) (n cap:Nat) (hn:n<=256) (u l0 l1 l2:List UInt8) (m:Int) (w:zA) (HQ:Hid (EncQ w (.slice p n cap) u l0 l1 l2 m)):
 qJ 134 #[.slice p n cap,St u] w (.tuple #[.agg #[St l1,St (if m=0 then l1 else l2)],.int .i64 0]):=by
 obtain⟨v1,hv⟩:=zzX (w.alloc (.cells #[St [],St []] 110));have a1:qL w v1:=by rw[hv];exact(zM _ w).alloc (zN _) _
 have R1:v1.heap[w.heap.size]? =some (.cells #[St [],St []] 110 (0,0)):=by rw[hv];exact zG w _
 have HV1:=hid hv.symm;have E1:=hid a1;have B1:=hid R1;clear hv a1 R1;have n4:wrap64 ((n:Int)+4)=(n:Int)+4:=by unfold wrap64;omega
 have n0:decide ((0:Int)<(n:Int)+4)=true:=decide_eq_true (by omega);have n1:decide ((1:Int)<(n:Int)+4)=true:=decide_eq_true (by omega);have n0':(0:Int)<(n:Int)+4:=by omega
 have n1':(1:Int)<(n:Int)+4:=by omega
 go_enter Tryz.func134,Tryz.ntmps134;go_wp21;have h9:=HV1.out;rw[show w.alloc (.cells #[.string ⟨#[]⟩,.string ⟨#[]⟩] 110)=v1 from h9];clear h9 HV1;refine zzM (HQ.out.nr v1 E1.out) λw1 hb1=>?_;have E2:=hid (E1.out.trans (hb1.mono E1.out.size));have B2:=hid (zac hb1 _ _ _ _ B1.out);clear hb1 E1 B1;go_wp21;refine zzM (HQ.out.o0 w1 E2.out) λw2 hb2=>?_;have E3:=hid (E2.out.trans (hb2.mono E2.out.size));have B3:=hid (zac hb2 _ _ _ _ B2.out);clear hb2 E2 B2;go_wp21;refine wp_loop_rounds 2 ?_;rw[rounds_succ];go_wp21;refine zzM (HQ.out.a1 w2 E3.out) λw3 hb3=>?_;have E4:=hid (E3.out.trans (hb3.mono E3.out.size));have B4:=hid (zac hb3 _ _ _ _ B3.out);clear hb3 E3 B3;go_wp21;refine zzM (HQ.out.o1 w3 E4.out) λw4 hb4=>?_;have E5:=hid (E4.out.trans (hb4.mono E4.out.size));have B5:=hid (zac hb4 _ _ _ _ B4.out);clear hb4 E4 B4;rcases HQ.out.hm with hm|hm
 ·subst hm
  clear HQ;have c0:w4.cell? ⟨w.heap.size,0,none⟩=some (St []):=by rw[zJ B5.out];rfl
  have c1:w4.cell? ⟨w.heap.size,1,none⟩=some (St []):=by rw[zJ B5.out];rfl
  have f0:=Go.Joins.unfrozen_of_block B5.out 0;have f1:=Go.Joins.unfrozen_of_block B5.out 1;go_wp21;have hB7:=E5.out;refine bodyPost_ret (v:=.tuple #[.agg #[St l1,St l1],.int .i64 0]) (by simp[results,Tryz.results134,go_sem,c0,c1]) rfl ⟨rfl,?_⟩
  repeat(first|exact hB7|refine Below.setCell ?_ (by simp) _)
 ·subst hm
  have HO:=hid (HQ.out.o2 rfl);go_wp21;rw[rounds_succ];go_wp21;refine zzM (HQ.out.a2 w4 E5.out) λw5 hb5=>?_;have E6:=hid (E5.out.trans (hb5.mono E5.out.size));have B6:=hid (zac hb5 _ _ _ _ B5.out);clear hb5 E5 B5;go_wp21;refine zzM (HO.out w5 E6.out) λw6 hb6=>?_;have E7:=hid (E6.out.trans (hb6.mono E6.out.size));have B7:=hid (zac hb6 _ _ _ _ B6.out);clear hb6 E6 B6 HQ HO;have c0:w6.cell? ⟨w.heap.size,0,none⟩=some (St []):=by rw[zJ B7.out];rfl
  have c1:w6.cell? ⟨w.heap.size,1,none⟩=some (St []):=by rw[zJ B7.out];rfl
  have f0:=Go.Joins.unfrozen_of_block B7.out 0;have f1:=Go.Joins.unfrozen_of_block B7.out 1;go_wp21;have hB7:=E7.out;refine bodyPost_ret (v:=.tuple #[.agg #[St l1,St l2],.int .i64 0]) (by simp[results,Tryz.results134,go_sem,c0,c1]) rfl ⟨rfl,?_⟩
  repeat(first|exact hB7|refine Below.setCell ?_ (by simp) _)
theorem zgj (w:zA):zC zF 153 #[.func (.func 154) #[] #[]] w λe w'=>e=.returned (.func (.func 227) #[] #[.pointer (some ⟨w.heap.size,0,none⟩)])/\w.alloc (.cells #[.func (.func 154) #[] #[]] 197)=w':=by
 go_enter Tryz.func153,Tryz.ntmps153;go_wp2;go_ret;exact⟨rfl,rfl⟩
theorem zla (l h:List UInt8) (w:zA):qJ 154 #[.agg #[St l,St h]] w (St l):=by
 obtain⟨v1,hv⟩:=zzX (w.alloc (.cells #[St l,St h] 110));have a1:qL w v1:=by rw[hv];exact(zM _ w).alloc (zN _) _
 have A1:v1.heap[w.heap.size]? =some (.cells #[St l,St h] 110 (0,0)):=by rw[hv];exact zG w _
 have k0:v1.cell? ⟨w.heap.size,0,none⟩=some (St l):=by rw[zJ A1];rfl
 rw[hv] at k0 a1;have B1:=hid a1;clear hv a1 A1;go_enter Tryz.func154,Tryz.ntmps154;go_wp21;go_ret;exact⟨rfl,B1.out⟩
theorem zgg (p:Option Addr) (n c:Nat) (u l h z:List UInt8) (b:Nat) (w:zA) (H:Hid (w.cell? ⟨b,0,none⟩=some (.func (.func 154) #[] #[])))
 (O:Hid (∀W:zA,qL w W->qJ 69 #[.slice p n c,.int .i64 0] W (.tuple #[.agg #[St l,St h],.int .i64 0])))
 (M:Hid (∀W:zA,qL w W->qJ 11 #[St l,St u] W (.tuple #[St z,.int .i64 0]))):
 qJ 227 #[.slice p n c,St u,.pointer (some ⟨b,0,none⟩)] w (.tuple #[St z,.int .i64 0]):=by
 go_enter Tryz.func227,Tryz.ntmps227;go_wp21;refine zzM (O.out w (zM _ _)) λw1 hb1=>?_;obtain⟨v1,hv⟩:=zzX (w1.alloc (.cells #[St l,St h] 110));have a1:qL w1 v1:=by rw[hv];exact(zM _ w1).alloc (zN _) _
 have A1:v1.heap[w1.heap.size]? =some (.cells #[St l,St h] 110 (0,0)):=by rw[hv];exact zG w1 _
 have k0:v1.cell? ⟨w1.heap.size,0,none⟩=some (St l):=by rw[zJ A1];rfl
 have k1:v1.cell? ⟨w1.heap.size,1,none⟩=some (St h):=by rw[zJ A1];rfl
 have kf:v1.cell? ⟨b,0,none⟩=some (.func (.func 154) #[] #[]):=zai a1 (zai hb1 H.out);rw[hv] at k0 k1 kf;have HV1:=hid hv.symm;have E1:=hid (hb1.trans (a1.mono hb1.size));clear hv a1 A1 hb1 O;go_wp21;rw[HV1.out];clear k0 k1 kf HV1;refine zzM (zla l h v1) λw2 hb2=>?_;have E2:=hid (E1.out.trans (hb2.mono E1.out.size));clear hb2;go_wp21;refine zzM (M.out w2 E2.out) λw3 hb3=>?_;have E3:=hid (E2.out.trans (hb3.mono E2.out.size));clear hb3;go_wp21;go_ret2;exact⟨rfl,E3.out⟩
theorem zp0:numS (mkRat 1 2)=[49,47,50]:=by decide+kernel
theorem zm6 (p:Option Addr) (n c:Nat) (u z l h:List UInt8) (L1 L2:List (Rat×Nat)) (w:zA)
 (U:Hid (∀W:zA,qL w W->zC zF 152 #[.slice p n c,St u] W λe w'=>∃q k c,e=.returned (.tuple #[.slice q k c,.int .i64 0])/\Below W.heap.size W w'/\SdL (.slice q k c) L1 w'))
 (A:Hid (∀(W:zA) (v1 v2:Value),qL w W->SdL v1 L1 W->SdL v2 [(mkRat 1 2,1)] W->zC zF 19 #[v1,v2] W λe w'=>∃q k c,e=.returned (.tuple #[.slice q k c,.int .i64 0])/\Below W.heap.size W w'/\SdL (.slice q k c) L2 w'))
 (O:Hid (∀(W:zA) (v:Value),qL w W->SdL v L2 W->qJ 69 #[v,.int .i64 0] W (.tuple #[.agg #[St l,St h],.int .i64 0])))
 (M:Hid (∀W:zA,qL w W->qJ 11 #[St l,St u] W (.tuple #[St z,.int .i64 0]))):
 qJ 87 #[.slice p n c,St u] w (.tuple #[St z,.int .i64 0]):=by
 go_enter Tryz.func87,Tryz.ntmps87;go_wp21;refine(U.out w (zM _ _)).mono ?_;rintro e w1 ⟨q1,n1,c1,rfl,hb1,s1⟩;obtain⟨v1,hv⟩:=zzX (w1.alloc (.cells #[.string ⟨#[49,47,50]⟩,.string ⟨#[49]⟩] 37));have d1:St (zD 1)=.string ⟨#[49]⟩:=by rw[zae (by omega)];rfl
 have hl:=SdL.laid w1 (mkRat 1 2) 1 ⟨#[49,47,50]⟩ ⟨#[49]⟩ (by rw[zp0]<;>rfl) d1 v1 hv;have a1:qL w1 v1:=by rw[hv];exact(zM _ w1).alloc (zN _) _
 have E1:=hb1.trans (a1.mono hb1.size);have HA:=hid (A.out v1 _ _ E1 (s1.below a1) hl);have HV:=hid hv.symm;have D1:=hid E1;clear hv a1 hb1 s1 E1 hl U A;go_wp21;have h9:=HV.out;rw[h9];clear h9 HV;refine HA.out.mono ?_;rintro e w2 ⟨q2,n2,c2,rfl,hb2,s2⟩;have D2:=hid (D1.out.trans (hb2.mono D1.out.size));have S2:=hid s2;clear hb2 s2 HA;go_wp21;refine zzM (zgj w2) λw3 hw3=>?_;have a3:qL w2 w3:=by rw[<-hw3];exact(zM _ w2).alloc (zN _) _
 have k3:w3.cell? ⟨w2.heap.size,0,none⟩=some (.func (.func 154) #[] #[]):=by rw[<-hw3,zJ (zG w2 _)];rfl
 have D3:=hid (D2.out.trans (a3.mono D2.out.size));have HM:=hid (zgg q2 n2 c2 u l h z w2.heap.size w3 (hid k3) (hid λW hW=>O.out W _ (D3.out.trans (hW.mono D3.out.size)) ((S2.out.below a3).below hW)) (hid λW hW=>M.out W (D3.out.trans (hW.mono D3.out.size))));clear hw3 a3 k3 O M S2;go_wp21;refine zzM HM.out λw4 hb4=>?_;have D4:=hid (D3.out.trans (hb4.mono D3.out.size));clear hb4;go_wp21;go_ret2;exact⟨rfl,D4.out⟩
theorem ya1 (p:Option Addr) (cap n:Nat) (X Y:Nat->ByteArray) (hl:n<=5000)
 (F:Hid (∀i,i<n->∀W:zA,Wd W->zC zF 211 #[.agg #[.string (X i),.string (Y i)]] W (BolQ W false)))
 (w:zA) (HW:Hid (Wd w)) (HP:Hid (RowTm p n X Y w)):
 qJ 129 #[.slice p n cap,.func (.func 211) #[] #[]] w (.int .i64 (-1)):=by
 go_enter Tryz.func129,Tryz.ntmps129;go_wp2;go_loopw [8] (λi wr=>∃(k:Nat),k<=n/\i=.int .i64 (k:Int)/\Hid (qL w wr))
  (λi _=>n-(zL i).toNat)
 case atStart=>exact⟨0,zR _,rfl,zM _ _⟩
 case round=>
  obtain⟨k,hk,rfl,hB⟩:=hrel;by_cases hlt:k<n
  ·obtain⟨b,off,rfl,c0,c1⟩:=(HP.out.keep (zac hB.out)) k hlt
   have HF:=hid (F.out k hlt wr (HW.out.below hB.out));generalize X k=x at*
   generalize Y k=y at*
   go_wp21;refine zzM HF.out λw2 hb2=>?_;have hB2:=hid (hB.out.trans (hb2.mono hB.out.size));clear hb2 HF;go_wp21;go_roundw
   case rel=>exact⟨k+1,by omega,by go_num,hB2⟩
   case measure=>simp[zL];omega
  ·have hkn:k=n:=by omega
   go_wp21;go_ret;exact⟨rfl,hB.out⟩
theorem ya2 (p:Option Addr) (cap n:Nat) (w:zA)
 (F:Hid (qJ 129 #[.slice p n cap,.func (.func 211) #[] #[]] w (.int .i64 (-1)))):
 zC zF 65 #[.slice p n cap,.func (.func 211) #[] #[]] w (BolQ w false):=by
 go_enter Tryz.func65,Tryz.ntmps65;go_wp21;refine zzM F.out λw1 hB=>?_;go_wp21;go_ret;exact⟨rfl,hB⟩
theorem z5r (p:Option Addr) (cap n:Nat) (C:zA->Prop) (hC:∀W W',C W->qL W W'->C W')
 (K:Hid (∀W:zA,C W->qJ 70 #[.slice p n cap] W (.int .i64 0)))
 (F:Hid (∀W:zA,C W->zC zF 65 #[.slice p n cap,.func (.func 211) #[] #[]] W (BolQ W false)))
 (w:zA) (H:Hid (C w)):
 qJ 133 #[.slice p n cap] w (.int .i64 0):=by
 have HC:=hid hC;clear hC;go_enter Tryz.func133,Tryz.ntmps133;go_wp21;refine zzM (K.out w H.out) λw1 hb1=>?_;have B1:=hid hb1;clear hb1;go_wp21;refine zzM (F.out w1 (HC.out _ _ H.out B1.out)) λw2 hb2=>?_;have B2:=hid (B1.out.trans (hb2.mono B1.out.size));clear hb2;go_wp21;go_ret;exact⟨rfl,B2.out⟩
theorem z5w (a b:Nat) (hb:0<b) (ha:(zD a).length<=300) (hb3:(zD b).length<=300) (w:zA) (hw:Wd w):
 qJ 368 #[.agg #[St (zD a),St (zD b)]] w (St (zD (a/b))):=by
 have hd:=λW hW=>zzq a b hb ha hb3 W hW;generalize zD a=x at*
 generalize zD b=y at*
 generalize zD (a/b)=q at*
 generalize zD (a%b)=r at*
 obtain⟨v1,hv⟩:=zzX (w.alloc (.cells #[St x,St y] 235));have a1:qL w v1:=by rw[hv];exact(zM _ w).alloc (zN _) _
 have A1:v1.heap[w.heap.size]? =some (.cells #[St x,St y] 235 (0,0)):=by rw[hv];exact zG w _
 have k0:v1.cell? ⟨w.heap.size,0,none⟩=some (St x):=by rw[zJ A1];rfl
 have k1:v1.cell? ⟨w.heap.size,1,none⟩=some (St y):=by rw[zJ A1];rfl
 have HD:=hid (hd v1 (hw.below a1));rw[hv] at k0 k1;have HV:=hid hv.symm;have E1:=hid a1;clear hv a1 A1 hd hb ha hb3 hw;go_enter Tryz.func368,Tryz.ntmps368;go_wp21;rw[HV.out];clear k0 k1 HV;refine zzM HD.out λw2 hb1=>?_;have B1:=hid (E1.out.trans (hb1.mono E1.out.size));clear hb1;go_wp21;go_ret;exact⟨rfl,B1.out⟩
theorem zyk (x u z:List UInt8) (w:zA)
 (M:Hid (qJ 11 #[St x,St u] w (.tuple #[St z,.int .i64 0]))):
 qJ 348 #[St x,St u] w (St z):=by
 go_enter Tryz.func348,Tryz.ntmps348;go_wp21;refine zzM M.out λw1 hb1=>?_;have B1:=hid hb1;clear hb1;go_wp21;go_ret;exact⟨rfl,B1.out⟩
structure PrdS (w:zA) (a b c d r s:List UInt8) (f:Nat->Bool) (W:zA):Prop where
 bel:qL w W
 h0:W.heap[w.heap.size]? =some (.cells #[St a,St b] 235 (0,0))
 h1:W.heap[w.heap.size+1]? =some (.cells #[St c,St d] 235 (0,0))
 h2:f 11=false->W.heap[w.heap.size+1+1]? =some (.cells #[St [],St []] 235 (0,0))
 h3:f 11=true->W.heap[w.heap.size+1+1]? =some (.cells #[St r,St s] 235 (0,0))
section
variable {w W W':zA} {a b c d r s:List UInt8} {f g:Nat->Bool}
theorem PrdS.congr (h:PrdS w a b c d r s f W) (e:g 11=f 11):PrdS w a b c d r s g W:=⟨h.bel,h.h0,h.h1,by rw[e];exact h.h2,by rw[e];exact h.h3⟩
theorem PrdS.next (h:PrdS w a b c d r s f W) (hb:qL W W'):PrdS w a b c d r s f W':=
 have hc:=zac hb
 ⟨h.bel.trans (hb.mono h.bel.size),hc _ _ _ _ h.h0,hc _ _ _ _ h.h1,λe=>hc _ _ _ _ (h.h2 e),λe=>hc _ _ _ _ (h.h3 e)⟩
theorem PrdS.cells (h:PrdS w a b c d r s f W):W.cell? ⟨w.heap.size,0,none⟩=some (St a)/\W.cell? ⟨w.heap.size,1,none⟩=some (St b)/\W.cell? ⟨w.heap.size+1,0,none⟩=some (St c)/\W.cell? ⟨w.heap.size+1,1,none⟩=some (St d):=
 ⟨by rw[zJ h.h0];rfl,by rw[zJ h.h0];rfl,by rw[zJ h.h1];rfl,by rw[zJ h.h1];rfl⟩
theorem PrdS.soft (h:PrdS w a b c d r s f W):W.frozen? ⟨w.heap.size+1+1,0,none⟩=false/\W.frozen? ⟨w.heap.size+1+1,1,none⟩=false:=by
 cases e:f 11
 ·exact⟨Go.Joins.unfrozen_of_block (h.h2 e) 0,Go.Joins.unfrozen_of_block (h.h2 e) 1⟩
 ·exact⟨Go.Joins.unfrozen_of_block (h.h3 e) 0,Go.Joins.unfrozen_of_block (h.h3 e) 1⟩
theorem PrdS.old (h:PrdS w a b c d r s f W) (e:f 11=false):W.cell? ⟨w.heap.size+1+1,0,none⟩=some (St [])/\W.cell? ⟨w.heap.size+1+1,1,none⟩=some (St []):=
 ⟨by rw[zJ (h.h2 e)];rfl,by rw[zJ (h.h2 e)];rfl⟩
theorem PrdS.new (h:PrdS w a b c d r s f W) (e:f 11=true):W.cell? ⟨w.heap.size+1+1,0,none⟩=some (St r)/\W.cell? ⟨w.heap.size+1+1,1,none⟩=some (St s):=
 ⟨by rw[zJ (h.h3 e)];rfl,by rw[zJ (h.h3 e)];rfl⟩
theorem PrdS.put (h:PrdS w a b c d r s f W) (e:f 11=false):PrdS w a b c d r s (λj=>if 11=j then true else f j) ((W.setCell ⟨w.heap.size+1+1,0,none⟩ (St r)).setCell ⟨w.heap.size+1+1,1,none⟩ (St s)):=by
 have ne:∀{k:Nat} {o:Obj},k≠w.heap.size+1+1->W.heap[k]? =some o->((W.setCell ⟨w.heap.size+1+1,0,none⟩ (St r)).setCell ⟨w.heap.size+1+1,1,none⟩ (St s)).heap[k]? =some o:=λ{k o} hk h=>by
  rw[yE _ _ _ _ (by exact hk),yE _ _ _ _ (by exact hk)];exact h
 refine⟨(h.bel.setCell (p:=⟨w.heap.size+1+1,0,none⟩) (by show _<=w.heap.size+1+1;omega) _).setCell (p:=⟨w.heap.size+1+1,1,none⟩) (by show _<=w.heap.size+1+1;omega) _,ne (by omega) h.h0,ne (by omega) h.h1,λk=>(by simp at k),λ_=>?_⟩;have:=zK (i:=1) (zK (i:=0) (h.h2 e) (St r)) (St s);exact this
end
theorem PrdS.start (w:zA) (a b c d r s:List UInt8):PrdS w a b c d r s (λ_=>false) (((w.alloc (.cells #[St a,St b] 235)).alloc (.cells #[St c,St d] 235)).alloc (.cells #[St [],St []] 235)):=by
 refine⟨(((zM _ w).alloc (zN _) _).alloc (by simp) _).alloc (by simp;omega) _,?_,?_,λ_=>?_,λk=>(by cases k)⟩
 ·exact(Below.heap_alloc _ _ _ (by simp;omega)).trans ((Below.heap_alloc _ _ _ (by simp)).trans (zG w _))
 ·have:=zG (w.alloc (.cells #[St a,St b] 235)) (.cells #[St c,St d] 235)
  rw[zH] at this;exact(Below.heap_alloc _ _ _ (by simp)).trans this
 ·have:=zG ((w.alloc (.cells #[St a,St b] 235)).alloc (.cells #[St c,St d] 235)) (.cells #[St [],St []] 235)
  rw[zH,zH] at this;exact this
theorem z3r (a b c d r s:List UInt8)
 (M1:Hid (qK 189 #[St a,St c] (St r)))
 (M2:Hid (qK 189 #[St b,St d] (St s)))
 (w:zA) (HW:Hid (Wd w)):
 qJ 367 #[.agg #[St a,St b],.agg #[St c,St d]] w (.agg #[St r,St s]):=by
 obtain⟨v1,hv⟩:=zzX (((w.alloc (.cells #[St a,St b] 235)).alloc (.cells #[St c,St d] 235)).alloc (.cells #[St [],St []] 235));have HS0:Hid (PrdS w a b c d r s (λ_=>false) v1):=hid (by rw[hv];exact PrdS.start w a b c d r s);have HV:=hid hv.symm;obtain⟨T,hT⟩:=zzX w.heap.size;have HT:=hid hT;clear hv hT;go_enter Tryz.func367,Tryz.ntmps367;go_wp21;have h9:=HV.out;rw[show((w.alloc (.cells #[.string ⟨a.toArray⟩,.string ⟨b.toArray⟩] 235)).alloc (.cells #[.string ⟨c.toArray⟩,.string ⟨d.toArray⟩] 235)).alloc (.cells #[.string ⟨#[]⟩,.string ⟨#[]⟩] 235)=v1 from h9];clear h9 HV;refine zbl (PrdS w a b c d r s) (by kernel_rfl) (by kernel_rfl) (HS0.out.next (zM _ _).drew) ?_;refine zab (v:=.pointer (some ⟨w.heap.size,0,none⟩)) (by rfl) (λf W' h=>h.congr rfl) (λf W' hf h=>by go_simp) ?_
 try simp only[zzQ]
 refine zab (v:=St a) (by rfl) (λf W' h=>h.congr rfl) (λf W' hf h=>by obtain⟨q0,q1,q2,q3⟩:=h.cells;go_simp) ?_
 try simp only[zzQ]
 refine zab (v:=.pointer (some ⟨w.heap.size+1,0,none⟩)) (by rfl) (λf W' h=>h.congr rfl) (λf W' hf h=>by go_simp) ?_
 try simp only[zzQ]
 refine zab (v:=St c) (by rfl) (λf W' h=>h.congr rfl) (λf W' hf h=>by obtain⟨q0,q1,q2,q3⟩:=h.cells;go_simp) ?_
 try simp only[zzQ]
 refine zar (St r) (by rfl) (λf W' hf h C' hC'=>by
  go_simp;refine zzM (M1.out _ (HW.out.below h.bel)) λw' hb=>?_;exact⟨rfl,hC' _ ((h.next hb).congr rfl)⟩) ?_
 try simp only[zzQ]
 refine zab (v:=.pointer (some ⟨w.heap.size,1,none⟩)) (by rfl) (λf W' h=>h.congr rfl) (λf W' hf h=>by go_simp) ?_
 try simp only[zzQ]
 refine zab (v:=St b) (by rfl) (λf W' h=>h.congr rfl) (λf W' hf h=>by obtain⟨q0,q1,q2,q3⟩:=h.cells;go_simp) ?_
 try simp only[zzQ]
 refine zab (v:=.pointer (some ⟨w.heap.size+1,1,none⟩)) (by rfl) (λf W' h=>h.congr rfl) (λf W' hf h=>by go_simp) ?_
 try simp only[zzQ]
 refine zab (v:=St d) (by rfl) (λf W' h=>h.congr rfl) (λf W' hf h=>by obtain⟨q0,q1,q2,q3⟩:=h.cells;go_simp) ?_
 try simp only[zzQ]
 refine zar (St s) (by rfl) (λf W' hf h C' hC'=>by
  go_simp;refine zzM (M2.out _ (HW.out.below h.bel)) λw' hb=>?_;exact⟨rfl,hC' _ ((h.next hb).congr rfl)⟩) ?_
 try simp only[zzQ]
 refine zab (v:=.agg #[St r,St s]) (by rfl) (λf W' h=>h.congr rfl) (λf W' hf h=>by go_simp) ?_
 try simp only[zzQ]
 refine zar undef (by rfl) (λf W' hf h C' hC'=>by
  have h11:=hf.self;obtain⟨f0,f1⟩:=h.soft;obtain⟨f2,f3⟩:=h.old h11;go_simp;exact⟨rfl,hC' _ (h.put h11)⟩) ?_
 try simp only[Act.put]
 refine zck λf X hf h=>?_;obtain⟨c0,c1⟩:=h.new (hf 11 (by decide));have hB:=hid h.bel;clear h hf;go_wp21;exact bodyPost_ret (v:=.agg #[St r,St s]) (by simp[results,Tryz.results367,go_sem,c0,c1]) rfl ⟨rfl,hB.out⟩
theorem z5y (a b c d r s:List UInt8)
 (M1:Hid (qK 189 #[St a,St d] (St r)))
 (M2:Hid (qK 189 #[St b,St c] (St s)))
 (w:zA) (HW:Hid (Wd w)):
 qJ 366 #[.agg #[St a,St b],.agg #[St c,St d]] w (.agg #[St r,St s]):=by
 obtain⟨v1,hv⟩:=zzX (((w.alloc (.cells #[St a,St b] 235)).alloc (.cells #[St c,St d] 235)).alloc (.cells #[St [],St []] 235));have HS0:Hid (PrdS w a b c d r s (λ_=>false) v1):=hid (by rw[hv];exact PrdS.start w a b c d r s);have HV:=hid hv.symm;obtain⟨T,hT⟩:=zzX w.heap.size;have HT:=hid hT;clear hv hT;go_enter Tryz.func366,Tryz.ntmps366;go_wp21;have h9:=HV.out;rw[show((w.alloc (.cells #[.string ⟨a.toArray⟩,.string ⟨b.toArray⟩] 235)).alloc (.cells #[.string ⟨c.toArray⟩,.string ⟨d.toArray⟩] 235)).alloc (.cells #[.string ⟨#[]⟩,.string ⟨#[]⟩] 235)=v1 from h9];clear h9 HV;refine zbl (PrdS w a b c d r s) (by kernel_rfl) (by kernel_rfl) (HS0.out.next (zM _ _).drew) ?_;refine zab (v:=.pointer (some ⟨w.heap.size,0,none⟩)) (by rfl) (λf W' h=>h.congr rfl) (λf W' hf h=>by go_simp) ?_
 try simp only[zzQ]
 refine zab (v:=St a) (by rfl) (λf W' h=>h.congr rfl) (λf W' hf h=>by obtain⟨q0,q1,q2,q3⟩:=h.cells;go_simp) ?_
 try simp only[zzQ]
 refine zab (v:=.pointer (some ⟨w.heap.size+1,1,none⟩)) (by rfl) (λf W' h=>h.congr rfl) (λf W' hf h=>by go_simp) ?_
 try simp only[zzQ]
 refine zab (v:=St d) (by rfl) (λf W' h=>h.congr rfl) (λf W' hf h=>by obtain⟨q0,q1,q2,q3⟩:=h.cells;go_simp) ?_
 try simp only[zzQ]
 refine zar (St r) (by rfl) (λf W' hf h C' hC'=>by
  go_simp;refine zzM (M1.out _ (HW.out.below h.bel)) λw' hb=>?_;exact⟨rfl,hC' _ ((h.next hb).congr rfl)⟩) ?_
 try simp only[zzQ]
 refine zab (v:=.pointer (some ⟨w.heap.size,1,none⟩)) (by rfl) (λf W' h=>h.congr rfl) (λf W' hf h=>by go_simp) ?_
 try simp only[zzQ]
 refine zab (v:=St b) (by rfl) (λf W' h=>h.congr rfl) (λf W' hf h=>by obtain⟨q0,q1,q2,q3⟩:=h.cells;go_simp) ?_
 try simp only[zzQ]
 refine zab (v:=.pointer (some ⟨w.heap.size+1,0,none⟩)) (by rfl) (λf W' h=>h.congr rfl) (λf W' hf h=>by go_simp) ?_
 try simp only[zzQ]
 refine zab (v:=St c) (by rfl) (λf W' h=>h.congr rfl) (λf W' hf h=>by obtain⟨q0,q1,q2,q3⟩:=h.cells;go_simp) ?_
 try simp only[zzQ]
 refine zar (St s) (by rfl) (λf W' hf h C' hC'=>by
  go_simp;refine zzM (M2.out _ (HW.out.below h.bel)) λw' hb=>?_;exact⟨rfl,hC' _ ((h.next hb).congr rfl)⟩) ?_
 try simp only[zzQ]
 refine zab (v:=.agg #[St r,St s]) (by rfl) (λf W' h=>h.congr rfl) (λf W' hf h=>by go_simp) ?_
 try simp only[zzQ]
 refine zar undef (by rfl) (λf W' hf h C' hC'=>by
  have h11:=hf.self;obtain⟨f0,f1⟩:=h.soft;obtain⟨f2,f3⟩:=h.old h11;go_simp;exact⟨rfl,hC' _ (h.put h11)⟩) ?_
 try simp only[Act.put]
 refine zck λf X hf h=>?_;obtain⟨c0,c1⟩:=h.new (hf 11 (by decide));have hB:=hid h.bel;clear h hf;go_wp21;exact bodyPost_ret (v:=.agg #[St r,St s]) (by simp[results,Tryz.results366,go_sem,c0,c1]) rfl ⟨rfl,hB.out⟩
theorem z8n (x:ByteArray) (h0:(x.toList==[48])=false) (w:zA) (N:Hid (zC zF 255 #[.string x] w λe w'=>e=.returned (.bool false)/\w'=w)):
 zC zF 365 #[.string x] w λe w'=>e=.returned (.int .i64 1)/\w'=w:=by
 go_enter Tryz.func365,Tryz.ntmps365;go_wp21;refine N.out.mono ?_;rintro e w' ⟨rfl,rfl⟩;go_wp21;go_ret;exact⟨rfl,rfl⟩
theorem z1n (x y:ByteArray)
 (CK:Hid (∀W:zA,Wd W->zC zF 185 #[.slice (some ⟨W.heap.size,0,none⟩) 2 2,.slice (some ⟨W.heap.size+1,0,none⟩) 1 1] ((W.alloc (.cells #[.string x,.string y] 30)).alloc (.cells #[.string x] 30)) λe w'=>e=.returned (.int .i64 0)/\Below W.heap.size W w'))
 (SG:Hid (∀W:zA,zC zF 365 #[.string y] W λe w'=>e=.returned (.int .i64 1)/\w'=W)) (w:zA) (HW:Hid (Wd w)):
 qJ 347 #[.string x,.string y] w (.int .i64 0):=by
 have HC:=hid (CK.out w HW.out);clear CK;go_enter Tryz.func347,Tryz.ntmps347;go_wp21;refine zzM HC.out λw2 hb2=>?_;have HB2:=hid hb2;clear hb2 HC;go_wp21;refine(SG.out w2).mono ?_;rintro e w' ⟨rfl,rfl⟩;go_wp21;go_ret;exact⟨rfl,HB2.out⟩
structure UntS (w:zA) (a:Nat) (un ud on od:List UInt8) (b:Nat) (f:Nat->Bool) (W:zA):Prop where
 bel:qL w W
 hu:W.heap[a]? =some (.cells #[St un,St ud] 235 (0,0))
 ge:f 6=true->w.heap.size<=b
 h6:f 6=true->f 7=false->W.heap[b]? =some (.cells #[St [],St []] 235 (0,0))
 h7:f 7=true->W.heap[b]? =some (.cells #[St on,St od] 235 (0,0))
section
variable {w W W':zA} {a b:Nat} {un ud on od:List UInt8} {f g:Nat->Bool}
theorem UntS.congr (h:UntS w a un ud on od b f W) (e6:g 6=f 6) (e7:g 7=f 7):UntS w a un ud on od b g W:=⟨h.bel,h.hu,by rw[e6];exact h.ge,by rw[e6,e7];exact h.h6,by rw[e7];exact h.h7⟩
theorem UntS.next (h:UntS w a un ud on od b f W) (hb:qL W W'):UntS w a un ud on od b f W':=
 have hc:=zac hb
 ⟨h.bel.trans (hb.mono h.bel.size),hc _ _ _ _ h.hu,h.ge,λe e'=>hc _ _ _ _ (h.h6 e e'),λe=>hc _ _ _ _ (h.h7 e)⟩
theorem UntS.cells (h:UntS w a un ud on od b f W):W.cell? ⟨a,0,none⟩=some (St un)/\W.cell? ⟨a,1,none⟩=some (St ud):=
 ⟨by rw[zJ h.hu];rfl,by rw[zJ h.hu];rfl⟩
theorem UntS.old (h:UntS w a un ud on od b f W) (e6:f 6=true) (e7:f 7=false):W.cell? ⟨b,0,none⟩=some (St [])/\W.cell? ⟨b,1,none⟩=some (St [])/\W.frozen? ⟨b,0,none⟩=false/\W.frozen? ⟨b,1,none⟩=false:=
 ⟨by rw[zJ (h.h6 e6 e7)];rfl,by rw[zJ (h.h6 e6 e7)];rfl,Go.Joins.unfrozen_of_block (h.h6 e6 e7) 0,Go.Joins.unfrozen_of_block (h.h6 e6 e7) 1⟩
theorem UntS.put (h:UntS w a un ud on od b f W) (e6:f 6=true) (e7:f 7=false) (hne:a≠b):UntS w a un ud on od b (λj=>if 7=j then true else f j) ((W.setCell ⟨b,0,none⟩ (St on)).setCell ⟨b,1,none⟩ (St od)):=by
 have hg:=h.ge e6;refine⟨(h.bel.setCell (p:=⟨b,0,none⟩) hg _).setCell (p:=⟨b,1,none⟩) hg _,?_,λ_=>hg,λ_ k=>(by simp at k),λ_=>?_⟩
 ·rw[yE _ _ _ _ (by exact hne),yE _ _ _ _ (by exact hne)];exact h.hu
 ·exact zK (i:=1) (zK (i:=0) (h.h6 e6 e7) (St on)) (St od)
theorem UntS.new (h:UntS w a un ud on od b f W) (e7:f 7=false):UntS w a un ud on od W.heap.size (λj=>if 6=j then true else f j) (W.alloc (.cells #[St [],St []] 235)):=
 have hb:qL W (W.alloc (.cells #[St [],St []] 235)):=(zM _ W).alloc (zN _) _
 ⟨h.bel.trans (hb.mono h.bel.size),zac hb _ _ _ _ h.hu,λ_=>h.bel.size,λ_ _=>zG _ _,λk=>(by have k':f 7=true:=(by simpa using k);rw[e7] at k';cases k')⟩
end
theorem z3s (q u fac qn qd un ud tn td on od m fl rt:List UInt8)
 (OQ:Hid (qK 186 #[St q] (.agg #[St qn,St qd])))
 (OU:Hid (qK 186 #[St u] (.agg #[St un,St ud])))
 (TM:Hid (qK 367 #[.agg #[St un,St ud],.agg #[St un,St ud]] (.agg #[St tn,St td])))
 (OV:Hid (qK 366 #[.agg #[St qn,St qd],.agg #[St tn,St td]] (.agg #[St on,St od])))
 (ML:Hid (qK 189 #[St on,St fac] (St m)))
 (FL:Hid (qK 368 #[.agg #[St m,St od]] (St fl)))
 (RT:Hid (qK 205 #[St fl] (.tuple #[St rt,.int .i64 0])))
 (w:zA) (HW:Hid (Wd w)):
 qJ 349 #[St q,St u,St fac] w (St rt):=by
 go_enter Tryz.func349,Tryz.ntmps349;go_wp21;refine zzM (OU.out w HW.out) λw1 hb1=>?_;obtain⟨v1,hv⟩:=zzX (w1.alloc (.cells #[St un,St ud] 235));have a1:qL w1 v1:=by rw[hv];exact(zM _ w1).alloc (zN _) _
 have A1:v1.heap[w1.heap.size]? =some (.cells #[St un,St ud] 235 (0,0)):=by rw[hv];exact zG w1 _
 have HV:=hid hv.symm;have E1:=hid (hb1.trans (a1.mono hb1.size));have B1:=hid A1;have hlt:=(Array.getElem?_eq_some_iff.1 A1).1;have HL:=hid hlt;clear hv a1 A1 hb1 hlt;go_wp21
 try rw[show w1.alloc (.cells #[.string ⟨un.toArray⟩,.string ⟨ud.toArray⟩] 235)=v1 from HV.out]
 clear HV;generalize w1.heap.size=a at*
 refine zc4 (λ(b:Nat) i=>([St q,.agg #[St qn,St qd],.agg #[St un,St ud],.agg #[St un,St ud],.agg #[St tn,St td],.agg #[St on,St od],.pointer (some ⟨b,0,none⟩)]:List Value).getD i undef) (UntS v1 a un ud on od) (by kernel_rfl) (by kernel_rfl) 0 ⟨(zM _ v1).drew,B1.out,λk=>(by cases k),λk=>(by cases k),λk=>(by cases k)⟩ λb=>?_;refine qB (St q) (λf W' h=>h.congr rfl rfl) ?_;simp only[zzQ]
 refine zbv (.agg #[St qn,St qd]) (by rfl) (by rfl) (λf W' hf h C' hC'=>by
  go_simp;refine zzM (OQ.out _ (HW.out.below (E1.out.trans (h.bel.mono E1.out.size)))) λw' hb=>?_;exact⟨_,rfl,hC' _ ((h.next hb).congr rfl rfl)⟩) ?_
 refine qB (.agg #[St un,St ud]) (λf W' h=>h.congr rfl rfl) ?_ (hy:=λf W' hf h=>by obtain⟨q0,q1⟩:=h.cells;go_simp);refine qB (.agg #[St un,St ud]) (λf W' h=>h.congr rfl rfl) ?_ (hy:=λf W' hf h=>by obtain⟨q0,q1⟩:=h.cells;go_simp);simp only[zzQ]
 refine zbv (.agg #[St tn,St td]) (by rfl) (by rfl) (λf W' hf h C' hC'=>by
  go_simp;refine zzM (TM.out _ (HW.out.below (E1.out.trans (h.bel.mono E1.out.size)))) λw' hb=>?_;exact⟨_,rfl,hC' _ ((h.next hb).congr rfl rfl)⟩) ?_
 try simp only[zzQ]
 refine zbv (.agg #[St on,St od]) (by rfl) (by rfl) (λf W' hf h C' hC'=>by
  go_simp;refine zzM (OV.out _ (HW.out.below (E1.out.trans (h.bel.mono E1.out.size)))) λw' hb=>?_;exact⟨_,rfl,hC' _ ((h.next hb).congr rfl rfl)⟩) ?_
 try simp only[zzQ]
 refine zdc (.pointer (some ⟨b,0,none⟩)) (by rfl) (by rfl) (λf W' hf h C' hC'=>by
  have h7:=hf.no (j:=7) hf.self (by kernel_rfl);have:=hC' W'.heap.size (W'.alloc (.cells #[St [],St []] 235)) (λi hi=>?_) (h.new h7)
  ·go_simp
   exact this
  ·match i,hi with
   |0,_|1,_|2,_|3,_|4,_|5,_=>rfl
   |6,hi=>rw[hf.self] at hi;cases hi
   |_+7,_=>rfl) ?_
 try simp only[zzQ]
 refine zbv undef (by rfl) (by rfl) (λf W' hf h C' hC'=>by
  have h7:=hf.self;have h6:=hf.done 6 (by kernel_rfl);obtain⟨q0,q1,q2,q3⟩:=h.old h6 h7;have hge:=h.ge h6;have:=hC' _ (h.put h6 h7 (by have:=HL.out;omega));go_simp;exact this) ?_
 try simp only[Act.put]
 refine ze1 λf X hf h=>?_;have h7:=h.h7 (hf 7 (by decide));have hge:=h.ge (hf 6 (by decide));have E2:=hid (E1.out.trans (h.bel.mono E1.out.size));have hge2:=zO E1.out.size hge;have HB:=hid h7;have q0:X.cell? ⟨b,0,none⟩=some (St on):=by rw[zJ h7];rfl
 have q1:X.cell? ⟨b,1,none⟩=some (St od):=by rw[zJ h7];rfl
 clear hf h h7 hge E1 B1 HL OQ OU TM OV;go_wp21;refine zzM (ML.out X (HW.out.below E2.out)) λw2 hb2=>?_;have E3:=hid (E2.out.trans (hb2.mono E2.out.size));have B3:=zac hb2 _ _ _ _ HB.out;have HB3:=hid B3;clear q0 q1;have q0:w2.cell? ⟨b,0,none⟩=some (St on):=by rw[zJ B3];rfl
 have q1:w2.cell? ⟨b,1,none⟩=some (St od):=by rw[zJ B3];rfl
 have q2:=Go.Joins.unfrozen_of_block B3 0;obtain⟨y2,hy2⟩:=zzX (w2.setCell ⟨b,0,none⟩ (St m));have r0:y2.cell? ⟨b,0,none⟩=some (St m):=by rw[hy2,zJ (zK (i:=0) B3 (St m))];rfl
 have r1:y2.cell? ⟨b,1,none⟩=some (St od):=by rw[hy2,zJ (zK (i:=0) B3 (St m))];rfl
 have E4:Hid (qL w y2):=hid (by rw[hy2];exact E3.out.setCell (p:=⟨b,0,none⟩) hge2 _);rw[hy2] at r0 r1;have HY:=hid hy2.symm;clear hb2 E2 HB ML B3 hge2 hy2;go_wp21
 try rw[show w2.setCell ⟨b,0,none⟩ (.string ⟨m.toArray⟩)=y2 from HY.out]
 clear HY r0 r1 q0 q1 q2;refine zzM (FL.out y2 (HW.out.below E4.out)) λw3 hb3=>?_;have E5:=hid (E4.out.trans (hb3.mono E4.out.size));clear hb3;go_wp21;refine zzM (RT.out w3 (HW.out.below E5.out)) λw4 hb4=>?_;have E6:=hid (E5.out.trans (hb4.mono E5.out.size));clear hb4;go_wp21;go_ret;exact⟨rfl,E6.out⟩
theorem z3v (q u rt z:List UInt8)
 (UE:Hid (qK 347 #[St q,St u] (.int .i64 0)))
 (UN:Hid (qK 349 #[St q,St u,.string ⟨#[49]⟩] (St rt)))
 (MU:Hid (qK 348 #[St rt,St u] (St z)))
 (w:zA) (HW:Hid (Wd w)):
 qJ 322 #[St q,St u] w (.tuple #[St z,.int .i64 0]):=by
 go_enter Tryz.func322,Tryz.ntmps322;go_wp21;refine zzM (UE.out w HW.out) λw1 hb1=>?_;have E1:=hid hb1;clear hb1;go_wp21;refine zzM (UN.out w1 (HW.out.below E1.out)) λw2 hb2=>?_;have E2:=hid (E1.out.trans (hb2.mono E1.out.size));clear hb2;go_wp21;refine zzM (MU.out w2 (HW.out.below E2.out)) λw3 hb3=>?_;have E3:=hid (E2.out.trans (hb3.mono E2.out.size));clear hb3;go_wp21;go_ret2;exact⟨rfl,E3.out⟩
theorem z93 (W:zA) (t:TypeId) (p q:Rat):
 RowNums (some ⟨W.heap.size,0,none⟩) 2 (λi=>if i=0 then p else q) ((W.alloc (.cells #[St (numS p),St (numS q)] t)).alloc (.cells #[St (numS p)] t))/\
 RowNums (some ⟨W.heap.size+1,0,none⟩) 1 (λ_=>p) ((W.alloc (.cells #[St (numS p),St (numS q)] t)).alloc (.cells #[St (numS p)] t)):=by
 have A1:=(Below.heap_alloc (W.alloc (.cells #[St (numS p),St (numS q)] t)) (.cells #[St (numS p)] t) W.heap.size (by simp)).trans (zG W (.cells #[St (numS p),St (numS q)] t (0,0)));have A2:=zG (W.alloc (.cells #[St (numS p),St (numS q)] t)) (.cells #[St (numS p)] t (0,0));rw[zH] at A2;constructor
 ·intro i hi
  refine⟨_,_,rfl,?_⟩;rw[zJ A1]
  match i,hi with
  |0,_|1,_=>rfl
 ·intro i hi
  refine⟨_,_,rfl,?_⟩;rw[zJ A2]
  match i,hi with
  |0,_=>rfl
theorem z8o (q u:Rat) (i j s:Nat) (hq:0<=q) (hu:0<u) (hi:0<i) (hj:0<j) (hij:i+2*j<=190) (hi9:i<=90) (hj9:j<=90) (sq:sz q i) (su:sz u j)
 (hs:s*s<=q.num.natAbs*(u.den*u.den)/(q.den*(u.num.natAbs*u.num.natAbs))/\q.num.natAbs*(u.den*u.den)/(q.den*(u.num.natAbs*u.num.natAbs))<(s+1)*(s+1)) (w:zA) (hw:Wd w):
 qJ 322 #[St (numS q),St (numS u)] w (.tuple #[St (numS ((s:Rat)*u)),.int .i64 0]):=by
 have hu0:u≠0:=by grind
 have hqn:0<=q.num:=Rat.num_nonneg.2 hq;have hun:0<=u.num:=Rat.num_nonneg.2 (Rat.le_of_lt hu);have hup:0<u.num.natAbs:=by
  have:u.num≠0:=λe=>hu0 (Rat.num_eq_zero.1 e);omega
 have okq:=zd0 (k:=i) (by omega) (by omega) sq;have oku:=zd0 (k:=j) (by omega) (by omega) su;have dq:=zok (k:=90) (by omega) (sq.mono hi9);have du:=zok (k:=90) (by omega) (su.mono hj9);have iq:itoa q.num=zD q.num.natAbs:=by
  have:=Str.zad q.num.natAbs;rwa [show((q.num.natAbs:Nat):Int)=q.num by omega] at this
 have iu:itoa u.num=zD u.num.natAbs:=by
  have:=Str.zad u.num.natAbs;rwa [show((u.num.natAbs:Nat):Int)=u.num by omega] at this
 obtain⟨q1,q2⟩:=sq;obtain⟨u1,u2⟩:=su;have su':sz u j:=⟨u1,u2⟩;have okn:u.num.natAbs*u.num.natAbs<10^(j+j):=zcc u1 u1;have okd:u.den*u.den<10^(j+j):=zcc u2 u2;have k1:q.num.natAbs*(u.den*u.den)<10^(i+(j+j)):=zcc q1 okd;have k2:q.den*(u.num.natAbs*u.num.natAbs)<10^(i+(j+j)):=zcc q2 okn;have len:∀{x k:Nat},0<k->k<=300->x<10^k->(zD x).length<=300:=λ{x k} h0 h3 h=>zO (zil h0 h) h3;have hD:0<q.den*(u.num.natAbs*u.num.natAbs):=Nat.mul_pos q.den_pos (Nat.mul_pos hup hup);have hNd:=Nat.div_le_self (q.num.natAbs*(u.den*u.den)) (q.den*(u.num.natAbs*u.num.natAbs));have k3:q.num.natAbs*(u.den*u.den)/(q.den*(u.num.natAbs*u.num.natAbs))<10^(i+(j+j)):=Nat.lt_of_le_of_lt hNd k1;have hsl:s<10^(i+(j+j)):=Nat.lt_of_le_of_lt (zO (Nat.le_mul_self s) hs.1) k3;have ss:sz (s:Rat) (i+(j+j)):=⟨by rw[show((s:Rat)).num=(s:Int) from rfl];simpa using hsl,by rw[show((s:Rat)).den=1 from rfl];exact Nat.one_lt_pow (by omega) (by omega)⟩;have d1:zD 1=[49]:=by rw[zae (by omega)];rfl
 refine z3v (numS q) (numS u) (zD s) _ (hid λW hW=>?_) (hid λW hW=>?_) (hid λW hW=>?_) w (hid hw)
 ·refine z1n ⟨(numS q).toArray⟩ ⟨(numS u).toArray⟩ (hid λW hW=>?_) (hid λW=>?_) W (hid hW)
  ·obtain⟨t1,t2⟩:=z93 W 30 q u
   have hal:qL W ((W.alloc (.cells #[St (numS q),St (numS u)] 30)).alloc (.cells #[St (numS q)] 30)):=((zM _ W).alloc (zN _) _).alloc (by simp) _;refine(zji _ _ 2 1 2 1 _ _ (by omega) (by omega) (hid λi _ W hW=>?_) (hid λi _ W hW=>?_) (hid λi _=>?_) (hid λi _ W=>?_) _ (hid (hW.below hal)) (hid t1) (hid t2)).mono ?_
   ·show zC _ _ #[St (numS (if i=0 then q else u))] _ _
    split
    ·exact zfj q okq W hW
    ·exact zfj u oku W hW
   ·by_cases c:i=0
    ·simp only[c,if_true];exact zio q okq W hW
    ·simp only[c,if_false];exact zio u oku W hW
   ·by_cases c:i=0
    ·simp only[c,if_true];exact dq
    ·simp only[c,if_false];exact du
   ·exact zma q hqn W
   ·rintro e w' ⟨rfl,hb⟩
    exact⟨rfl,hal.trans (hb.mono hal.size)⟩
  ·refine z8n _ ?_ W (hid (zma u hun W))
   rw[ByteArray.toList_eq,beq_eq_false_iff_ne];exact λh=>hu0 ((zpy u).1 (by simpa using h))
 ·rw[<-d1]
  refine z3s (numS q) (numS u) (zD 1) (zD q.num.natAbs) (zD q.den) (zD u.num.natAbs) (zD u.den) (zD (u.num.natAbs*u.num.natAbs)) (zD (u.den*u.den)) (zD (q.num.natAbs*(u.den*u.den))) (zD (q.den*(u.num.natAbs*u.num.natAbs))) (zD (q.num.natAbs*(u.den*u.den))) (zD (q.num.natAbs*(u.den*u.den)/(q.den*(u.num.natAbs*u.num.natAbs)))) (zD s)
   (hid λW hW=>?_) (hid λW hW=>?_) (hid λW hW=>?_) (hid λW hW=>?_) (hid λW hW=>?_) (hid λW hW=>?_) (hid λW hW=>?_) W (hid hW)
  ·have:=zio q okq W hW;rwa [iq] at this
  ·have:=zio u oku W hW;rwa [iu] at this
  ·exact z3r _ _ _ _ _ _ (hid λW hW=>zs4 _ _ (len hj (by omega) u1) (len hj (by omega) u1) (len (by omega) (by omega) okn) W hW) (hid λW hW=>zs4 _ _ (len hj (by omega) u2) (len hj (by omega) u2) (len (by omega) (by omega) okd) W hW) W (hid hW)
  ·exact z5y _ _ _ _ _ _ (hid λW hW=>zs4 _ _ (len hi (by omega) q1) (len (by omega) (by omega) okd) (len (by omega) (by omega) k1) W hW) (hid λW hW=>zs4 _ _ (len hi (by omega) q2) (len (by omega) (by omega) okn) (len (by omega) (by omega) k2) W hW) W (hid hW)
  ·have:=zs4 (q.num.natAbs*(u.den*u.den)) 1 (len (by omega) (by omega) k1) (by rw[d1];simp) (by rw[Nat.mul_one];exact len (by omega) (by omega) k1) W hW
   rwa [Nat.mul_one] at this
  ·exact z5w _ _ hD (len (by omega) (by omega) k1) (len (by omega) (by omega) k2) W hW
  ·exact zvx _ s hs (zO (zil (by omega) k3) (by omega)) W hW
 ·rw[<-zhe]
  exact zyk _ _ _ W (hid (zjf (s:Rat) u (i+(j+j)) j (by omega) hj (by omega) ss su' W hW))
end
section
open Go.RowKit Go.Shelf Lib Str Limb Geo
attribute [local go_sem] Oper.semAt_some
theorem zlt (v:Value) (l:List (Rat×Nat)) (ok:SdOk l) (hl:l.length<=12) (hs:∀t∈l,sz t.1 20) (w:zA) (hw:Hw w) (hv:SdL v l w):
 qJ 133 #[v] w (.int .i64 0):=by
 obtain⟨p,cap,rfl,hc,hx⟩:=hv.slice;have at_:∀i,i<l.length->∃t,l[i]? =some t/\t∈l:=λi hi=>⟨_,yB hi,List.getElem_mem hi⟩;refine z5r p cap l.length (λW=>Hw W/\SdL (.slice p l.length cap) l W) (λW W' h hb=>⟨h.1.below hb,h.2.below hb⟩) (hid λW h=>zbh _ l ok W h.1.wd h.1.pw h.2)
  (hid λW h=>ya2 p cap l.length W (hid (ya1 p cap l.length (λi=>⟨(numS (l[i]?.getD (1,1)).1).toArray⟩) (λi=>⟨(zD (l[i]?.getD (1,1)).2).toArray⟩) (by omega) (hid λi hi V hV=>?_) W (hid h.1.wd) (hid λi hi=>?_)))) w (hid ⟨hw,hv⟩)
 ·obtain⟨t,ht,hm⟩:=at_ i hi
  rw[ht];have h20:=hs t hm;refine z9k (numS t.1) (zD t.2) (hid λY hY=>?_) V (hid hV);have h1:(trimPrefix (itoa t.1.num) [45]).length<=20:=by
   have:=(zok (k:=20) (by omega) h20).1;unfold digs at this;rw[zbi];exact this
  have h2:(zD t.1.den).length<=20:=(zaf t.1.den 20 (by omega)).2 h20.2;exact yag (numS t.1) (itoa t.1.num) (zD t.1.den) _ rfl (decide_eq_false (by show ¬(20:Int)<(((trimPrefix (itoa t.1.num) [45]).toArray.size:Nat):Int);simp;omega)) (decide_eq_false (by omega)) Y (hid hY) (hid λZ hZ=>zk5 t.1 (zd0 (by omega) (by omega) h20) Z hZ)
 ·obtain⟨t,ht,hm⟩:=at_ i hi
  rcases h.2 with⟨e,hl0⟩|⟨g,o,c,e,_,_,hx2⟩
  ·rw[hl0] at hi;simp at hi
  ·injection e with e1 e2 e3
   dsimp only;rw[ht];obtain⟨h0,h1⟩:=hx2 i t ht;exact⟨g,o,e1,h0,h1⟩
theorem zno {a:Rat} (h:0<=a):∃h0:0<(⟨(numS a).toArray⟩:ByteArray).size,((((⟨(numS a).toArray⟩:ByteArray)[0]'h0).toNat:Int)==45)=false:=by
 have hn:¬a.num<0:=by have:=Rat.num_nonneg.2 h;omega
 have hh:(numS a).head? ≠some 45:=λe=>hn ((zk2 a.num _).1 e);have hl:numS a≠[]:=λe=>by
  have hp:=zq8 (q:=a) (by omega);obtain⟨c,r,e2, -, -⟩:=Str.dec_head a.num.natAbs;rw[hp,e2] at e;cases e
 obtain⟨c,r,hcr⟩:=List.exists_cons_of_ne_nil hl;rw[hcr] at hh⊢;refine⟨by simp[ByteArray.size],?_⟩;show((c.toNat:Int)==45)=false;rw[beq_eq_false_iff_ne];intro e;apply hh;have:c=45:=UInt8.toNat_inj.1 (show c.toNat=(45:UInt8).toNat by have:(45:UInt8).toNat=45:=rfl;omega);rw[this];rfl
theorem zcl:numS (mkRat 1 1000)=[49,47,49,48,48,48]/\sz (mkRat 1 1000) 4/\(0:Rat)<mkRat 1 1000/\(mkRat 1 1000).den=1000/\(mkRat 1 1000).num.natAbs=1:=by
 refine⟨?_,⟨?_,?_⟩,?_,?_,?_⟩<;>decide+kernel
theorem zp2 (a:Rat) (r k j:Nat) (ha:0<a) (hk:0<k) (hj:0<j) (hkj:2*k+j<=90) (sa:sz a k) (sr:sz ((r:Nat):Rat) j) (w:zA) (hw:Wd w):
 qJ 279 #[.agg #[St (numS a),St (zD r)],St (numS (mkRat 1 1000))] w (.tuple #[St (numS (thT (a,r))),.int .i64 0]):=by
 obtain⟨h0,hb⟩:=zno (Rat.le_of_lt ha);have s1:=zca sa sa;have s2:=zca s1 sr;have hr:(0:Rat)<=(r:Rat):=by exact_mod_cast zR r
 have hq:0<=a*a*((r:Nat):Rat):=Rat.mul_nonneg (Rat.mul_nonneg (Rat.le_of_lt ha) (Rat.le_of_lt ha)) hr;refine zkj ⟨(numS a).toArray⟩ (zD r) (numS (mkRat 1 1000)) (numS (a*a)) (numS (a*a*((r:Nat):Rat))) _ h0 hb (hid λW hW=>zjf a a k k hk hk (by omega) sa sa W hW) (hid λW hW=>?_) (hid λW hW=>?_) w (hid hw)
 ·have:=zjf (a*a) ((r:Nat):Rat) (k+k) j (by omega) hj (by omega) s1 sr W hW
  rw[zhe] at this;exact this
 ·have hs:=zv0 ((a*a*((r:Nat):Rat)).num.natAbs*(1000*1000)/((a*a*((r:Nat):Rat)).den*(1*1)))
  exact z8o (a*a*((r:Nat):Rat)) (mkRat 1 1000) (k+k+j) 4 (thS (a*a*((r:Nat):Rat))) hq zcl.2.2.1 (by omega) (by omega) (by omega) (by omega) (by omega) s2 zcl.2.1 (by rw[zcl.2.2.2.1,zcl.2.2.2.2];exact hs) W hW
theorem zns {a b:Rat} (h:b<a):cmpR a b=1:=by have:=zaw a b;grind
theorem znw {a b:Rat} (h:a<b):cmpR a b= -1:=by have:=zaw a b;grind
theorem zjj {a b:Rat} (h:b<=a):cmpR a b=0\/cmpR a b=1:=by have:=zaw a b;grind
theorem zh3 {q:Rat} {k:Nat} (hk:0<k) (h:sz q k):sz ((flQ q:Nat):Rat) k:=by
 have h1:flQ q<=q.num.natAbs:=Nat.div_le_self _ _;have h2:=h.1;exact⟨by show((flQ q:Nat):Int).natAbs<_;rw[Int.natAbs_natCast];omega,by show 1<10^k;exact Nat.one_lt_pow (by omega) (by omega)⟩
theorem zlv (t:Rat) (h0:0<=t) (st:sz t 8) (w:zA) (hw:Wd w):
 qJ 280 #[St (numS t),St (numS 1)] w (.tuple #[St (numS ((flQ t:Nat):Rat)),.int .i64 0]):=by
 refine z5d (numS t) (numS 1) (numS t) (numS ((flQ t:Nat):Rat)) _ (hid λW hW=>?_) (hid λW hW=>zgr t h0 st W hW) (hid λW hW=>?_) w (hid hw)
 ·have:=zoj t 1 (by decide) 8 1 (by omega) (by omega) (by omega) st zb7.2.1 W hW
  rw[show t/1=t by grind] at this;exact this
 ·have:=zjf ((flQ t:Nat):Rat) 1 8 1 (by omega) (by omega) (by omega) (zh3 (by omega) st) zb7.2.1 W hW
  rw[Rat.mul_one] at this;exact this
theorem sz_u (k:Nat) (hk:0<k):sz 1 k:=zb7.2.1.mono (by omega)
def thA (l:List (Rat×Nat)) (i:Nat):Nat:=((l.take i).map λt=>thS (t.1*t.1*(t.2:Rat))).sum
theorem zxw {α:Type} (f:α->Nat) {l:List α} {i:Nat} {t:α} (h:l[i]? =some t):((l.take (i+1)).map f).sum=((l.take i).map f).sum+f t:=by
 rw[List.take_add_one,h];simp
theorem ze2 {l:List (Rat×Nat)} {i:Nat} {t:Rat×Nat} (h:l[i]? =some t):thA l (i+1)=thA l i+thS (t.1*t.1*(t.2:Rat)):=by
 unfold thA;exact zxw _ h
theorem zrv {l:List (Rat×Nat)}:∀{k i:Nat},i+k=l.length->thA l i<=thA l l.length
 |0,i,h=>by obtain rfl:i=l.length:=by omega
            exact zN _
 |k+1,i,h=>by
  have:=ze2 (yB (show i<l.length by omega));have:=zrv (l:=l) (k:=k) (i:=i+1) (by omega);omega
theorem zua {s:Nat} (h:s<10^8):sz (((s:Nat):Rat)*mkRat 1 1000) 8:=by
 rw[show((s:Nat):Rat)*mkRat 1 1000=Rat.divInt (s:Int) (1000:Int) by
  rw[Rat.divInt_eq_div,show mkRat 1 1000=1/1000 by decide+kernel];show(s:Rat)*(1/1000)=(s:Rat)/1000;grind]
 exact zig (by omega) (by rw[Int.natAbs_natCast];exact h) (by decide)
theorem zo8 (l:List (Rat×Nat)) (ok:SdOk l) (hl:l.length<=2) (hp:∀t∈l,0<t.1/\sz t.1 20/\sz ((t.2:Nat):Rat) 20) (F:Nat) (hS:thA l l.length<10^8) (hF:flQ (((thA l l.length:Nat):Rat)*mkRat 1 1000)=F) (m:Int) (hm:m=0\/m=1)
 (O:∀(a:Rat) (n:Int),(a=(F:Rat)-1/\n=1)\/(a=(F:Rat)/\n=m)\/(m=1/\a=(F:Rat)+1/\n= -1)->∀(W:zA) (v:Value),Hw W->SdL v l W->qJ 214 #[v,St (numS a)] W (.tuple #[.int .i64 n,.int .i64 0])) (v:Value) (w:zA) (hw:Hw w) (hv:SdL v l w):
 qJ 69 #[v,.int .i64 0] w (.tuple #[.agg #[St (numS (F:Rat)),St (if m=0 then numS (F:Rat) else numS ((F:Rat)+1))],.int .i64 0]):=by
 have hT0:0<=((thA l l.length:Nat):Rat)*mkRat 1 1000:=Rat.mul_nonneg (by exact_mod_cast zR _) (Rat.le_of_lt zcl.2.2.1);have sT:=zua hS;have sf:=zh3 (by omega) sT;rw[hF] at sf;have sA:∀i,i<=l.length->sz (((thA l i:Nat):Rat)*mkRat 1 1000) 8:=λi hi=>zua (Nat.lt_of_le_of_lt (zrv (k:=l.length-i) (by omega)) hS);have s0:sz ((F:Rat)-1) 10:=zdr sf (sz_u 1 (by omega));have u1:St (numS 1)=.string ⟨#[49]⟩:=by rw[zfc]<;>rfl
 refine zk8 v _ _ w (hid λW hW=>zlt v l ok (by omega) (λt ht=>(hp t ht).2.1) W (hw.below hW) (hv.below hW)) (hid λW hW=>?_);have hW':=hw.below hW;have hvW:=hv.below hW;obtain⟨p,cap,rfl, -,hx⟩:=hvW.slice;rw[<-u1];have at_:∀i,i<l.length->l[i]? =some (l[i]?.getD (1,1))/\l[i]?.getD (1,1)∈l:=λi hi=>by
  rw[yB hi];exact⟨rfl,List.getElem_mem hi⟩
 refine zm3 p l.length cap (by omega) (numS 1) (numS ((F:Rat)-1)) _ _ m W (hid ⟨λV hV=>?_,λV hV=>O _ _ (.inl ⟨rfl,rfl⟩) V _ (hW'.below hV) (hvW.below hV),λV hV=>?_,λV hV=>O _ _ (.inr (.inl ⟨rfl,rfl⟩)) V _ (hW'.below hV) (hvW.below hV),λV hV=>?_,λh1 V hV=>O _ _ (.inr (.inr ⟨h1,rfl,rfl⟩)) V _ (hW'.below hV) (hvW.below hV),hm⟩)
 ·refine zk9 p l.length cap (by omega) (λi=>numS (l[i]?.getD (1,1)).1) (λi=>zD (l[i]?.getD (1,1)).2) (λi=>numS (thT (l[i]?.getD (1,1)))) (λi=>numS (((thA l i:Nat):Rat)*mkRat 1 1000)) (numS 1) (numS (mkRat 1 1000)) (numS (F:Rat)) _ (by show numS (((0:Nat):Rat)*mkRat 1 1000)=_;rw[show((0:Nat):Rat)=0 from rfl,Rat.zero_mul,nm0]) (hid λU hU=>?_) (hid λi hi U hU=>?_) (hid λi hi U hU=>?_) (hid λU hU=>?_) (hid λU hU=>ztz _ 1 8 1 (by omega) (by omega) (by omega) sf (sz_u 1 (by omega)) U hU) V (hid (hW'.below hV).wd) (hid λi hi=>?_)
  ·have:=zjf 1 (mkRat 1 1000) 1 4 (by omega) (by omega) (by omega) (sz_u 1 (by omega)) zcl.2.1 U hU
   rw[Rat.one_mul,zcl.1] at this;rw[zcl.1];exact this
  ·obtain⟨h1,h2,h3⟩:=hp _ (at_ i hi).2
   exact zp2 _ _ 20 20 h1 (by omega) (by omega) (by omega) h2 h3 U hU
  ·have e:=ze2 (at_ i hi).1
   have e2:thT (l[i]?.getD (1,1))=((thA l (i+1):Nat):Rat)*mkRat 1 1000-((thA l i:Nat):Rat)*mkRat 1 1000:=by
    rw[e];unfold thT;push_cast;grind
   have s1:=sA i (by omega);have s2:=sA (i+1) (by omega);have s3:sz (thT (l[i]?.getD (1,1))) 8:=zua (s:=thS ((l[i]?.getD (1,1)).1*(l[i]?.getD (1,1)).1*((l[i]?.getD (1,1)).2:Rat))) (by have:=zrv (l:=l) (k:=l.length-(i+1)) (i:=i+1) (by omega);omega);have:=zje (((thA l i:Nat):Rat)*mkRat 1 1000) (thT (l[i]?.getD (1,1))) 8 8 (by omega) (by omega) (by omega) s1 s3 U hU;rw[show((thA l i:Nat):Rat)*mkRat 1 1000+thT (l[i]?.getD (1,1))=((thA l (i+1):Nat):Rat)*mkRat 1 1000 by rw[e2];grind] at this;exact this
  ·have:=zlv _ hT0 sT U hU
   rw[hF] at this;exact this
  ·obtain⟨b,off,e,_,h0,h1⟩:=hx i _ (at_ i hi).1
   exact⟨b,off,e,zai hV h0,zai hV h1⟩
 ·have:=zje ((F:Rat)-1) 1 10 1 (by omega) (by omega) (by omega) s0 (sz_u 1 (by omega)) V (hW'.below hV).wd
  rw[show(F:Rat)-1+1=(F:Rat) by grind] at this;exact this
 ·exact zje (F:Rat) 1 8 1 (by omega) (by omega) (by omega) sf (sz_u 1 (by omega)) V (hW'.below hV).wd
theorem zrw (l L1 L2:List (Rat×Nat)) (n F:Nat) (hi:List UInt8) (h1:1<=n) (h2:n<=64) (ok:SdOk l) (ok1:SdOk L1) (e1:sclR l (n:Rat)=L1) (e2:mkG (L1++[(mkRat 1 2,1)])=L2) (hl:L1.length<=11) (s2:∀t∈L2,sz t.1 60) (sF:sz (F:Rat) 8)
 (E:∀(W:zA) (v:Value),Hw W->SdL v L2 W->qJ 69 #[v,.int .i64 0] W (.tuple #[.agg #[St (numS (F:Rat)),St hi],.int .i64 0])) (v:Value) (w:zA) (hw:Hw w) (hv:SdL v l w):
 qJ 87 #[v,St (numS (1/(n:Rat)))] w (.tuple #[St (numS ((F:Rat)*(1/(n:Rat)))),.int .i64 0]):=by
 have hn0:(0:Rat)<(n:Rat):=by exact_mod_cast h1
 have sn:sz ((n:Nat):Rat) 2:=⟨by show((n:Int)).natAbs<_;rw[Int.natAbs_natCast];omega,by show 1<10^2;decide⟩;have hu:0<1/(n:Rat):=by rw[Rat.div_def,Rat.one_mul];exact Rat.inv_pos.2 hn0
 have su:sz (1/(n:Rat)) 2:=by
  rw[show(1:Rat)/(n:Rat)=Rat.divInt (1:Int) (n:Int) by rw[Rat.divInt_eq_div];rfl];exact zig (by omega) (by show(1:Int).natAbs<_;decide) (by rw[Int.natAbs_natCast];omega)
 have sh:sz (mkRat 1 2) 1:=⟨by decide+kernel,by decide+kernel⟩;obtain⟨p,cap,rfl, -, -⟩:=hv.slice;have z0:St (numS 0)=.string ⟨#[48]⟩:=by rw[nm0]<;>rfl
 have z1:St (numS 1)=.string ⟨#[49]⟩:=by rw[zfc]<;>rfl
 refine zm6 p l.length cap (numS (1/(n:Rat))) _ (numS (F:Rat)) hi L1 L2 w (hid λW hW=>?_) (hid λW v1 v2 hW s1 s2'=>?_) (hid λW v hW hs=>E W v (hw.below hW) hs) (hid λW hW=>?_)
 ·have hW':=hw.below hW
  refine zlr _ (numS (1/(n:Rat))) (numS (n:Rat)) L1 1 (by omega) W (hid λV hV=>zbh _ l ok V (hW'.below hV).wd (hW'.below hV).pw ((hv.below hW).below hV)) (hid λV hV=>zfj _ (zd0 (by omega) (by omega) su) V (hW'.below hV).wd) (hid λV hV=>?_) (hid λV hV=>?_) (hid λV hV=>?_)
  ·have:=zgq (1/(n:Rat)) 0 2 1 (by omega) (by omega) (by omega) su (zd2 1 (by omega)) V (hW'.below hV).wd
   rw[zns hu,z0] at this;exact this
  ·have:=zoj 1 (1/(n:Rat)) (by grind) 1 2 (by omega) (by omega) (by omega) (sz_u 1 (by omega)) su V (hW'.below hV).wd
   rw[z1,show(1:Rat)/(1/(n:Rat))=(n:Rat) by grind] at this;exact this
  ·refine(zeu _ l (n:Rat) ok ok.len (sn.mono (by omega)) (λt ht=>(zca (ok.trm t ht).sc sn).mono (by omega)) V (hW'.below hV).d (hW'.below hV).p ((hv.below hW).below hV)).mono λe w' h=>?_
   rw[e1] at h;obtain⟨v',e1,hb,hs⟩:=h.ok λt ht=>(ok1.trm t ht).sc;obtain⟨q,k,c,rfl⟩:=hs.any;exact⟨q,k,c,e1,hb,hs⟩
 ·have hW':=hw.below hW
  have hh:mkRat 1 2≠0:=by decide+kernel
  refine(z4w v1 v2 L1 [(mkRat 1 2,1)] ok1 (by rw[<-za5 hh];exact zbz (sh.mono (by omega))) (by simp;omega) W hW'.d hW'.p s1 s2').mono λe w' h=>?_;rw[e2] at h;obtain⟨v',e1,hb,hs⟩:=h.ok s2;obtain⟨q,k,c,rfl⟩:=hs.any;exact⟨q,k,c,e1,hb,hs⟩
 ·exact zjf _ _ 8 2 (by omega) (by omega) (by omega) sF su W (hw.below hW).wd
theorem zrb (v:Value) (x:Rat) (n:Nat) (h1:1<=n) (h2:n<=64) (hx:0<=x) (sx:sz x 12) (sxn:sz (x*n) 12) (sy:sz (x*n+mkRat 1 2) 14) (h5:x*n+mkRat 1 2<100000) (w:zA) (hw:Hw w) (hv:SdL v (rs x) w):
 qJ 87 #[v,St (numS (1/(n:Rat)))] w (.tuple #[St (numS (nrQ x n)),.int .i64 0]):=by
 have hn0:(0:Rat)<(n:Rat):=by exact_mod_cast h1
 have hh:(0:Rat)<mkRat 1 2:=by decide+kernel
 have hxn:0<=x*(n:Rat):=Rat.mul_nonneg hx (Rat.le_of_lt hn0);obtain⟨y,hy'⟩:=zzX (x*(n:Rat)+mkRat 1 2);unfold nrQ;rw[<-hy'] at sy h5⊢;have hy:0<y:=by grind
 have hrs:rs y=[(y,1)]:=za5 (by grind);have hyle:=Rat.le_of_lt hy;obtain⟨f1,f2⟩:=zcq hyle;obtain⟨t1,t2⟩:=zq7 hyle;have hsT:thT (y,1)=((thS (y*y*((1:Nat):Rat)):Nat):Rat)*mkRat 1 1000:=rfl;obtain⟨g1,g2⟩:=zqj hsT t1 t2;have hft:flQ (thT (y,1))=flQ y:=(zqi hyle g1 g2).symm;have sf:sz ((flQ y:Nat):Rat) 8:=⟨by
  have:((flQ y:Nat):Rat)<((100000:Nat):Rat):=by rw[show((100000:Nat):Rat)=100000 by decide+kernel];grind
  have:flQ y<100000:=by exact_mod_cast this
  show((flQ y:Int)).natAbs<_;rw[Int.natAbs_natCast];omega,by show 1<10^8;decide⟩
 have hs:thS (y*y*((1:Nat):Rat))<10^8:=by
  have e1:((thS (y*y*((1:Nat):Rat)):Nat):Rat)<=y*1000:=by
   have:=Rat.mul_le_mul_of_nonneg_right t1 (show(0:Rat)<=1000 by decide);rw[hsT,Rat.mul_assoc,show mkRat 1 1000*1000=1 by decide+kernel,Rat.mul_one] at this;exact this
  have e3:((thS (y*y*((1:Nat):Rat)):Nat):Rat)<((10^8:Nat):Rat):=by
   have e4:((10^8:Nat):Rat)=100000*1000:=by decide+kernel
   rw[e4];grind
  exact_mod_cast e3
 have hth:thA (rs y) (rs y).length=thS (y*y*((1:Nat):Rat)):=by
  rw[hrs];have:=ze2 (l:=[(y,1)]) (i:=0) rfl;rw[show thA [(y,1)] 0=0 from rfl] at this;exact this.trans (Nat.zero_add _)
 have hmem:∀t∈rs y,t=(y,1):=λt ht=>(zh5 ht).1;refine zrw (rs x) (rs (x*n)) (rs y) n (flQ y) (if cmpR y ((flQ y:Nat):Rat)=0 then numS ((flQ y:Nat):Rat) else numS (((flQ y:Nat):Rat)+1)) h1 h2 (zbz (sx.mono (by omega))) (zbz (sxn.mono (by omega))) (zqb x n) (by rw[<-za5 (show mkRat 1 2≠0 by grind),zh8,<-hy']) (by have:=zcz (x*n);omega) (λt ht=>by rw[hmem t ht];exact sy.mono (by omega)) sf ?_ v w hw hv;refine λW v hW hs'=>zo8 (rs y) (zbz (sy.mono (by omega))) (by have:=zcz y;omega) (λt ht=>by rw[hmem t ht];exact⟨hy,sy.mono (by omega),sz_u 20 (by omega)⟩) (flQ y) (by rw[hth];exact hs) (by rw[hth,<-hsT];exact hft) (cmpR y ((flQ y:Nat):Rat)) (zjj f1) (λa n h W v hW hs=>?_) v W hW hs';have sa:sz a 10/\n=cmpR y a:=by
  rcases h with⟨rfl,rfl⟩|⟨rfl,rfl⟩|⟨-,rfl,rfl⟩
  ·exact⟨zdr sf (sz_u 1 (by omega)),(zns (by grind)).symm⟩
  ·exact⟨sf.mono (by omega),rfl⟩
  ·exact⟨zk0 sf (sz_u 1 (by omega)),(znw f2).symm⟩
 rw[sa.2];exact zf7 _ y a (sy.mono (by omega)) (sa.1.mono (by omega)) ((zdr sa.1 sy).mono (by omega)) W hW hs
theorem sz_k (n k:Nat) (hk:0<k) (h:n<10^k):sz ((n:Nat):Rat) k:=⟨by show((n:Int)).natAbs<_;rw[Int.natAbs_natCast];exact h,by show 1<10^k;exact Nat.one_lt_pow (by omega) (by omega)⟩
theorem zfr (a b k:Nat) (hb:0<b) (ha:a<10^k) (hb2:b<10^k):sz (((a:Nat):Rat)/((b:Nat):Rat)) k:=by
 rw[show((a:Nat):Rat)/((b:Nat):Rat)=Rat.divInt (a:Int) (b:Int) by rw[Rat.divInt_eq_div];rfl];exact zig (by omega) (by rw[Int.natAbs_natCast];exact ha) (by rw[Int.natAbs_natCast];exact hb2)
theorem nm12:numS 12=[49,50]:=by have:=zha 12;rw[show((12:Int):Rat)=12 from rfl] at this;rw[this];decide+kernel
theorem zc9:((1:Nat):Rat)=1:=rfl
theorem zgk (v:Value) (P:Rat) (N:Nat) (h1:1<=N) (h2:N<=64) (hP:0<=P) (sP:sz P 2) (h5:P*12*N+mkRat 1 2<100000) (w:zA) (hw:Hw w) (hv:SdL v (rs P) w):
 qJ 24 #[v,.int .i64 (N:Int)] w (.tuple #[St (numS (nrQ (P*12) N)),.int .i64 0]):=by
 have s12:sz 12 2:=⟨by decide,by decide⟩;have sx:sz (P*12) 4:=zca sP s12;have sN:sz ((N:Nat):Rat) 2:=sz_k N 2 (by omega) (by omega);have sxn:sz (P*12*(N:Rat)) 6:=zca sx sN;have sy:sz (P*12*(N:Rat)+mkRat 1 2) 8:=zk0 sxn (show sz (mkRat 1 2) 1 from⟨by decide+kernel,by decide+kernel⟩);have hs:0<=cmpR P 0:=by rcases zjj hP with h|h<;>omega
 have z12:St (numS 12)=.string ⟨#[49,50]⟩:=by rw[nm12]<;>rfl
 have hx:0<=P*12:=by grind
 refine zm1 v (N:Int) (numS (1/(N:Rat))) (numS (nrQ (P*12) N)) (rs (P*12)) (cmpR P 0) hs ⟨by omega,by omega⟩ w (hid λW hW=>zbh _ (rs P) (zbz (sP.mono (by omega))) W (hw.below hW).wd (hw.below hW).pw (hv.below hW))
  (hid λW hW=>zpc v P (sP.mono (by omega)) W (hw.below hW).d (hw.below hW).p (hid λV hV=>((hw.below hW).below hV).sw) (hv.below hW)) (hid λW hW=>?_) (hid λW hW=>?_) (hid λW v' hW hs'=>zrb v' (P*12) N h1 h2 hx (sx.mono (by omega)) (sxn.mono (by omega)) (sy.mono (by omega)) h5 W (hw.below hW) hs')
 ·have:=z7l 1 N (by omega) (by omega) (by omega) W (hw.below hW).wd
  rw[zc9] at this;exact this
 ·have hW':=hw.below hW
  rw[<-z12];refine(ziy v P 12 (sP.mono (by omega)) (s12.mono (by omega)) (sx.mono (by omega)) W hW'.d hW'.p (hv.below hW)).mono λe w' ⟨v',e1,hb,hs⟩=>?_;obtain⟨q,k,c,rfl⟩:=hs.any;exact⟨q,k,c,e1,hb,hs⟩
def zmi (W:Rat) (F:Nat):Prop:=(1<=F->((F:Rat)-mkRat 1 2)*((F:Rat)-mkRat 1 2)<=W)/\W<((F:Rat)+mkRat 1 2)*((F:Rat)+mkRat 1 2)
theorem zrx:(0:Rat)<mkRat 1 2/\mkRat 1 2<1/\sz (mkRat 1 2) 1/\mkRat 1 2≠0:=⟨by decide+kernel,by decide+kernel,⟨by decide+kernel,by decide+kernel⟩,by decide+kernel⟩
theorem zec {a b:Rat} (h0:0<=a) (h:a<=b):a*a<=b*b:=by
 have h1:=Rat.mul_le_mul_of_nonneg_left h h0;have h2:=Rat.mul_le_mul_of_nonneg_right h (show 0<=b by grind);grind
theorem zvv {a b:Rat} (h0:0<=a) (h:a<b):a*a<b*b:=by
 have h1:=zec h0 (Rat.le_of_lt h);rcases(show a*a<b*b\/a*a=b*b by grind) with h2|h2
 ·exact h2
 ·exfalso
  have:(b-a)*(b+a)=0:=by grind
  rcases Rat.mul_eq_zero.1 this with h|h<;>grind
theorem zry {a b:Rat} (h0:0<=b) (h:a*a<=b*b):a<=b:=by
 rcases(show a<=b\/b<a by grind) with h1|h1
 ·exact h1
 ·exact absurd (zvv h0 h1) (by grind)
theorem zvw {W:Rat} (h0:0<=W) (F:Nat) (hF:nrF W=F):zmi W F:=by
 have:=zxs h0;rw[hF] at this;exact this
theorem zvy {c:Rat} {m n:Nat} (hm:IrrN m) (hc:0<c) (sc:sz c 10) (h1:1<=n) (h2:n<=64) (hB:c*(n:Rat)*(c*(n:Rat))*(m:Rat)<9000000000):
 ∃F:Nat,zmi (c*(n:Rat)*(c*(n:Rat))*(m:Rat)) F/\F<100000/\∀(W:zA) (v:Value),Hw W->SdL v [(c,m)] W->qJ 87 #[v,St (numS (1/(n:Rat)))] W (.tuple #[St (numS ((F:Rat)*(1/(n:Rat)))),.int .i64 0]):=by
 obtain⟨p0,p1,sh,h0⟩:=zrx;have hn0:(0:Rat)<(n:Rat):=by exact_mod_cast h1
 have sn:sz ((n:Nat):Rat) 2:=sz_k n 2 (by omega) (by omega);have hb:0<c*(n:Rat):=Rat.mul_pos hc hn0;have sb:sz (c*(n:Rat)) 12:=zca sc sn;have hm0:(0:Rat)<=(m:Rat):=by exact_mod_cast zR m
 obtain⟨b,eb⟩:=zzX (c*(n:Rat));rw[<-eb] at hb sb hB⊢;have hW:0<=b*b*(m:Rat):=Rat.mul_nonneg (Rat.mul_nonneg (by grind) (by grind)) hm0;obtain⟨F,hF⟩:∃F,nrF (b*b*(m:Rat))=F:=⟨_,rfl⟩;have sp:=zvw hW F hF;have hF5:F<100000:=by
  refine Nat.lt_of_not_le λh=>?_;have hq:(100000:Rat)<=(F:Rat):=by rw[show(100000:Rat)=((100000:Nat):Rat) by decide+kernel];exact_mod_cast h
  have h3:=sp.1 (by omega);have:=zec (show(0:Rat)<=99999 by decide) (show 99999<=(F:Rat)-mkRat 1 2 by grind);grind
 refine⟨F,sp,hF5,λW v hW' hv=>?_⟩;have ht:TrmR c m:=⟨by grind,sc.mono (by omega),hm.nr⟩;have ht1:TrmR b m:=⟨by grind,sb.mono (by omega),hm.nr⟩;have sm:sz ((m:Nat):Rat) 20:=zrg (by omega) hm.nr.len;have eL:=(ziz (a:=mkRat 1 2) (b:=b) (m:=m) h0 (by grind) hm);have th:thS (b*b*(m:Rat))<10^8-500:=by
  have:=(zpp hW).1;refine Nat.lt_of_not_le λh=>?_;have hq:((10^8-500:Nat):Rat)<=((thS (b*b*(m:Rat)):Nat):Rat):=by exact_mod_cast h
  have h3:=zec (show(0:Rat)<=((10^8-500:Nat):Rat) by decide+kernel) hq;have h4:(9000000000:Rat)*1000000<((10^8-500:Nat):Rat)*((10^8-500:Nat):Rat):=by decide+kernel
  grind
 have t5:thS (mkRat 1 2*mkRat 1 2*((1:Nat):Rat))=500:=by decide+kernel
 have hA:thA [(mkRat 1 2,1),(b,m)] 2=500+thS (b*b*(m:Rat)):=by
  have a1:=ze2 (l:=[(mkRat 1 2,1),(b,m)]) (i:=0) rfl;have a2:=ze2 (l:=[(mkRat 1 2,1),(b,m)]) (i:=1) rfl;rw[show thA [(mkRat 1 2,1),(b,m)] 0=0 from rfl] at a1;rw[a1.trans (Nat.zero_add _),t5] at a2;exact a2
 have hfl:flQ (((500+thS (b*b*(m:Rat)):Nat):Rat)*mkRat 1 1000)=F:=by
  rw[<-hF];unfold nrF;rw[show((500+thS (b*b*(m:Rat)):Nat):Rat)*mkRat 1 1000=mkRat 1 2+((thS (b*b*(m:Rat)):Nat):Rat)*mkRat 1 1000 by
   rw[show mkRat 1 2=500*mkRat 1 1000 by decide+kernel];push_cast;grind]
 have sF:sz (F:Rat) 8:=sz_k F 8 (by omega) (by omega);have ok2:SdOk [(mkRat 1 2,1),(b,m)]:=by
  have:=zvh (T:=[(mkRat 1 2,1),(b,m)]) (λt ht=>by
   simp at ht;rcases ht with rfl|rfl
   ·exact⟨by omega,by rw[zae (by omega)];simp,by decide+kernel⟩
   ·exact hm.nr) (by simp) (λt ht=>by
    rw[eL.1] at ht;simp at ht;rcases ht with rfl|rfl
    ·exact sh.mono (by omega)
    ·exact sb.mono (by omega))
  rwa [eL.1] at this
 refine zrw [(c,m)] [(b,m)] [(mkRat 1 2,1),(b,m)] n F (if(1:Int)=0 then numS (F:Rat) else numS ((F:Rat)+1)) h1 h2 (SdOk.one ht) (SdOk.one ht1) (by unfold sclR sclL;rw[if_neg (by grind)];simp[eb]) eL.2 (by simp) (λt ht=>(ok2.trm t ht).sc) sF ?_ v W hW' hv;refine λW v hW hs=>zo8 _ ok2 (by simp) (λt ht=>?_) F (by show thA _ 2<_;rw[hA];omega) (by show flQ (((thA _ 2:Nat):Rat)*_)=F;rw[hA];exact hfl) 1 (.inr rfl) (λa k h W v hW hs=>?_) v W hW hs
 ·simp at ht
  rcases ht with rfl|rfl
  ·exact⟨p0,sh.mono (by omega),sz_u 20 (by omega)⟩
  ·exact⟨hb,sb.mono (by omega),sm⟩
 have key:a-mkRat 1 2≠0/\sz a 10/\((k=1/\(a-mkRat 1 2<0\/(a-mkRat 1 2)*(a-mkRat 1 2)<=b*b*(m:Rat)))\/(k= -1/\0<a-mkRat 1 2/\b*b*(m:Rat)<=(a-mkRat 1 2)*(a-mkRat 1 2))):=by
  have hh2:=zpn;have hF0:(0:Rat)<=(F:Rat):=by exact_mod_cast zR F
  rcases(show F=0\/F=1\/2<=F by omega) with e|e|e
  ·subst e
   rcases h with⟨rfl,rfl⟩|⟨rfl,rfl⟩|⟨-,rfl,rfl⟩
   ·exact⟨by grind,zdr sF (sz_u 1 (by omega)),.inl ⟨rfl,.inl (by grind)⟩⟩
   ·exact⟨by grind,sF.mono (by omega),.inl ⟨rfl,.inl (by grind)⟩⟩
   ·exact⟨by grind,zk0 sF (sz_u 1 (by omega)),.inr ⟨rfl,by grind,by have:=sp.2;rw[show((0:Nat):Rat)+1-mkRat 1 2=((0:Nat):Rat)+mkRat 1 2 by grind];grind⟩⟩
  ·subst e
   have s1:=sp.1 (by omega);rcases h with⟨rfl,rfl⟩|⟨rfl,rfl⟩|⟨-,rfl,rfl⟩
   ·exact⟨by grind,zdr sF (sz_u 1 (by omega)),.inl ⟨rfl,.inl (by grind)⟩⟩
   ·exact⟨by grind,sF.mono (by omega),.inl ⟨rfl,.inr s1⟩⟩
   ·exact⟨by grind,zk0 sF (sz_u 1 (by omega)),.inr ⟨rfl,by grind,by have:=sp.2;rw[show((1:Nat):Rat)+1-mkRat 1 2=((1:Nat):Rat)+mkRat 1 2 by grind];grind⟩⟩
  ·have s1:=sp.1 (by omega)
   have hF2:(2:Rat)<=(F:Rat):=by exact_mod_cast e
   rcases h with⟨rfl,rfl⟩|⟨rfl,rfl⟩|⟨-,rfl,rfl⟩
   ·have:=zec (a:=(F:Rat)-1-mkRat 1 2) (b:=(F:Rat)-mkRat 1 2) (by grind) (by grind)
    exact⟨by grind,zdr sF (sz_u 1 (by omega)),.inl ⟨rfl,.inr (by grind)⟩⟩
   ·exact⟨by grind,sF.mono (by omega),.inl ⟨rfl,.inr s1⟩⟩
   ·exact⟨by grind,zk0 sF (sz_u 1 (by omega)),.inr ⟨rfl,by grind,by have:=sp.2;rw[show(F:Rat)+1-mkRat 1 2=(F:Rat)+mkRat 1 2 by grind];grind⟩⟩
 obtain⟨k1,sa,k2⟩:=key;have sx:sz (a-mkRat 1 2) 12:=zdr sa sh;obtain⟨o1,o2,o3,o4⟩:=zxt h0 hb sb hm sx k1;have ed:=ztf (x:=a) (show b≠0 by grind) hm k1 h0
 have:=zs3 v [(mkRat 1 2,1),(b,m)] a ok2 (by simp) (sa.mono (by omega)) (λt ht=>by
  rw[ed] at ht;simp at ht;rcases ht with rfl|rfl
  ·exact sx.mono (by omega)
  ·exact⟨by rw[show(-b).num= -b.num from rfl,Int.natAbs_neg];exact(sb.mono (by omega):sz b 60).1,(sb.mono (by omega):sz b 60).2⟩) o1 W hW hs
 rcases k2 with⟨rfl,g|g⟩|⟨rfl,g1,g2⟩
 ·rw[o2 g] at this;exact this
 ·rw[o3 g] at this;exact this
 ·rw[o4 g1 g2] at this;exact this
theorem zxx {c:Rat} {m n:Nat} (hm:NrmR m) (hc:0<c) (sc:sz c 10) (h1:1<=n) (h2:n<=64) (hB:c*(n:Rat)*(c*(n:Rat))*(m:Rat)<9000000000):
 ∃F:Nat,zmi (c*(n:Rat)*(c*(n:Rat))*(m:Rat)) F/\F<100000/\∀(W:zA) (v:Value),Hw W->SdL v [(c,m)] W->qJ 87 #[v,St (numS (1/(n:Rat)))] W (.tuple #[St (numS ((F:Rat)*(1/(n:Rat)))),.int .i64 0]):=by
 by_cases e:m=1
 ·subst e
  obtain⟨p0,p1,sh,h0⟩:=zrx;have hn0:(0:Rat)<(n:Rat):=by exact_mod_cast h1
  have sn:sz ((n:Nat):Rat) 2:=sz_k n 2 (by omega) (by omega);have hb:0<c*(n:Rat):=Rat.mul_pos hc hn0;have hB':c*(n:Rat)<99999:=by
   rcases(show c*(n:Rat)<99999\/99999<=c*(n:Rat) by grind) with h|h
   ·exact h
   ·have:=zec (show(0:Rat)<=99999 by decide) h
    have e1:((1:Nat):Rat)=1:=rfl;rw[e1] at hB;exfalso;grind
  obtain⟨f1,f2⟩:=zcq (show 0<=c*(n:Rat)+mkRat 1 2 by grind);refine⟨flQ (c*n+mkRat 1 2),⟨λhF=>?_,?_⟩,?_,λW v hW hv=>?_⟩
  ·have hF1:(1:Rat)<=((flQ (c*n+mkRat 1 2):Nat):Rat):=by exact_mod_cast hF
   have:=zec (a:=((flQ (c*n+mkRat 1 2):Nat):Rat)-mkRat 1 2) (b:=c*(n:Rat)) (by grind) (by grind);rw[show((1:Nat):Rat)=1 from rfl,Rat.mul_one];exact this
  ·have hh2:=zpn
   have:=zvv (a:=c*(n:Rat)) (b:=((flQ (c*n+mkRat 1 2):Nat):Rat)+mkRat 1 2) (by grind) (by grind);rw[show((1:Nat):Rat)=1 from rfl,Rat.mul_one];exact this
  ·have:((flQ (c*n+mkRat 1 2):Nat):Rat)<((100000:Nat):Rat):=by rw[show((100000:Nat):Rat)=100000 by decide+kernel];grind
   exact_mod_cast this
  ·rw[<-za5 (show c≠0 by grind)] at hv
   exact zrb v c n h1 h2 (by grind) (sc.mono (by omega)) ((zca sc sn).mono (by omega)) ((zk0 (zca sc sn) sh).mono (by omega)) (by grind) W hW hv
 ·exact zvy ⟨hm,e⟩ hc (sc.mono (by omega)) h1 h2 hB
theorem zlc {c x:Rat} {m:Nat} (hm:NrmR m) (hc:0<c) (sc:sz c 12) (sx:sz x 12) (hx:0<x):
 ∃k:Int,(x*x<=c*c*(m:Rat)->0<=k)/\(c*c*(m:Rat)<=x*x->k<=0)/\∀(W:zA) (v1 v2:Value),Hw W->SdL v1 [(c,m)] W->SdL v2 (rs x) W->qJ 14 #[v1,v2] W (.tuple #[.int .i64 k,.int .i64 0]):=by
 by_cases e:m=1
 ·subst e
  have hk:=zaw c x;rw[show((1:Nat):Rat)=1 from rfl,Rat.mul_one];refine⟨cmpR c x,λh=>?_,λh=>?_,λW v1 v2 hW h1 h2=>?_⟩
  ·have:=zry (by grind) h
   rcases hk with⟨a,b⟩|⟨a,b⟩|⟨a,b⟩
   ·exfalso;grind
   ·omega
   ·omega
  ·have:=zry (by grind) h
   rcases hk with⟨a,b⟩|⟨a,b⟩|⟨a,b⟩
   ·omega
   ·omega
   ·exfalso;grind
  ·rw[<-za5 (show c≠0 by grind)] at h1
   exact zls v1 v2 c x (sc.mono (by omega)) (sx.mono (by omega)) ((zdr sc sx).mono (by omega)) W hW h1 h2
 ·have hi:IrrN m:=⟨hm,e⟩
  obtain⟨o1,o2,o3⟩:=zxu hc sc hi sx hx;refine⟨sgnL (dfL [(c,m)] (rs x)),λh=>by rw[o2 h];omega,λh=>by rw[o3 h];omega,λW v1 v2 hW h1 h2=>?_⟩
  have:=zmh v1 v2 [(c,m)] (rs x) (SdOk.one ⟨by grind,sc.mono (by omega),hm⟩) (zbz (sx.mono (by omega))) (by have:=zcz x;simp;omega) (λt ht=>by
   rw[zru (show c≠0 by grind) hi (by grind)] at ht;simp at ht;rcases ht with rfl|rfl
   ·exact⟨by rw[show(-x).num= -x.num from rfl,Int.natAbs_neg];exact(sx.mono (by omega):sz x 60).1,(sx.mono (by omega):sz x 60).2⟩
   ·exact sc.mono (by omega)) W hW h1 h2
  rw[o1] at this;exact this
end
end Go.Proofs.YtmeekcnlacckfaaGreatDoor
