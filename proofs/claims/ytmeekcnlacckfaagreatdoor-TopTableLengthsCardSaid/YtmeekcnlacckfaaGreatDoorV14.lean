/- kingposttop.TopTableLengths, for every input. -/
import Derived.Test.YtmeekcnlacckfaaGreatDoorV13
import Derived.LaidByTextLater
set_option maxRecDepth 100000
set_option maxHeartbeats 8000000
open Go renaming World → zA
open Go.Proofs.Tryz renaming prog → zF
namespace Go.Proofs.YtmeekcnlacckfaaGreatDoor
section
open Go.RowKit Go.Shelf Lib Str Limb Geo
attribute [local go_sem] Oper.semAt_some
theorem zzl {c:Rat} {m:Nat} (h:c≠0):mkG [(c,m)]=[(c,m)]:=by
 unfold mkG keG;rw[List.foldl_cons,List.foldl_nil,show gaG [] (c,m)=[(c,m)] from rfl];simp[srtS,insS,h]
theorem zs7 (a:ByteArray) (sq r:List UInt8) (b:Nat) (w:zA) (H:Hid (w.cell? ⟨b,0,none⟩=some (.string a)))
 (AD:Hid (qJ 12 #[.string a,St sq] w (.tuple #[St r,.int .i64 0]))):
 qJ 224 #[St sq,.pointer (some ⟨b,0,none⟩)] w (.tuple #[St r,.int .i64 0]):=by
 have h:=H.out;go_enter Tryz.func224,Tryz.ntmps224;go_wp21;refine zzM AD.out λw1 hb=>?_;have B1:=hid hb;clear hb h H;go_wp21;go_ret2;exact⟨rfl,B1.out⟩
theorem zs8 (a:ByteArray) (sq s r:List UInt8) (b:Nat) (w:zA) (H:Hid (w.cell? ⟨b,0,none⟩=some (.string a)))
 (AD:Hid (qJ 12 #[.string a,St sq] w (.tuple #[St s,.int .i64 0])))
 (DV:Hid (∀W:zA,qL w W->qJ 101 #[.string a,St s] W (.tuple #[St r,.int .i64 0]))):
 qJ 225 #[St sq,.pointer (some ⟨b,0,none⟩)] w (.tuple #[St r,.int .i64 0]):=by
 have h:=H.out;go_enter Tryz.func225,Tryz.ntmps225;go_wp21;refine zzM AD.out λw1 hb=>?_;have B1:=hid hb;replace h:=zai hb h;clear hb H;go_wp21;refine zzM (DV.out w1 B1.out) λw2 hb=>?_;have B2:=hid (B1.out.trans (hb.mono B1.out.size));clear hb h B1;go_wp21;go_ret2;exact⟨rfl,B2.out⟩
theorem zw9 (N:Int) (u:List UInt8) (hN:1<=N/\N<=64) (w:zA)
 (O:Hid (qJ 26 #[.int .i64 1,.int .i64 N] w (.tuple #[St u,.int .i64 0]))):
 qJ 85 #[.int .i64 N] w (.tuple #[St u,.bool true]):=by
 have h1:decide (N<1)=false:=decide_eq_false (by omega);have h2:decide (64<N)=false:=decide_eq_false (by omega);go_enter Tryz.func85,Tryz.ntmps85;go_wp21;refine zzM O.out λw1 hb=>?_;have B1:=hid hb;clear hb;go_wp21;go_ret2;exact⟨rfl,B1.out⟩
def facT (i:Nat):Nat:=if i=2 then 16 else if i=3 then 24 else 12
def numB (i:Nat):Rat:=if i=1\/i=5 then 2 else 1
def radT (P:Rat) (i:Nat):Rat:=if i<4 then numB i+P*P else numB i/(numB i+P*P)
theorem zm2 (i:Nat):12<=facT i/\facT i<=24:=by unfold facT;split;omega;split<;>omega
theorem zmk (i:Nat):(numB i=1\/numB i=2)/\sz (numB i) 1:=by
 unfold numB;split
 ·exact⟨.inr rfl,⟨by decide,by decide⟩⟩
 ·exact⟨.inl rfl,⟨by decide,by decide⟩⟩
theorem zxy (i:Nat):Value.string (rowF i)=St (numS ((facT i:Nat):Rat)):=by
 have h:∀(k:Nat) (l:List UInt8),itoa k=l->St (numS ((k:Nat):Rat))=.string ⟨l.toArray⟩:=λk l h=>by rw[show((k:Nat):Rat)=(((k:Nat):Int):Rat) from rfl,zha,h]
 unfold rowF facT;by_cases h2:i=2
 ·rw[if_pos h2,if_pos h2];exact(h 16 _ (by decide+kernel)).symm
 ·rw[if_neg h2,if_neg h2]
  by_cases h3:i=3
  ·rw[if_pos h3,if_pos h3];exact(h 24 _ (by decide+kernel)).symm
  ·rw[if_neg h3,if_neg h3];exact(h 12 _ (by decide+kernel)).symm
theorem zr5 (i:Nat):Value.string (rowA i)=St (numS (numB i)):=by
 have e1:numS 1=[49]:=by decide+kernel
 have e2:numS 2=[50]:=by decide+kernel
 unfold rowA numB;by_cases h2:i=1\/i=5
 ·rw[if_pos h2,if_pos h2,e2]
 ·rw[if_neg h2,if_neg h2,e1]
theorem zix {P:Rat} (h0:0<P) (h48:P<=48) (sP:sz P 2) (i:Nat):0<radT P i/\radT P i<=2306/\sz (radT P i) 8/\sz (numB i+P*P) 6/\0<numB i+P*P:=by
 obtain⟨hn,sn⟩:=zmk i;have hp:=Rat.mul_pos h0 h0;have hp2:=zec (Rat.le_of_lt h0) h48;have sp:sz (P*P) 4:=zca sP sP;have s1:sz (numB i+P*P) 6:=zk0 sn sp;have h1:0<numB i+P*P:=by rcases hn with e|e<;>rw[e]<;>grind
 have h2:numB i+P*P<=2306:=by rcases hn with e|e<;>rw[e]<;>grind
 have h3:0<numB i:=by rcases hn with e|e<;>rw[e]<;>decide
 unfold radT;split
 ·exact⟨h1,h2,s1.mono (by omega),s1,h1⟩
 ·have h4:=div_pos h3 h1
  refine⟨h4,?_,(z8t (by grind) sn s1).mono (by omega),s1,h1⟩;have e:numB i/(numB i+P*P)*(numB i+P*P)=numB i:=by grind
  have h5:=Rat.mul_le_mul_of_nonneg_left (show numB i<=numB i+P*P by grind) (Rat.le_of_lt h4);rcases(show numB i/(numB i+P*P)<=1\/1<numB i/(numB i+P*P) by grind) with g|g
  ·grind
  ·exfalso
   have:=Rat.mul_lt_mul_of_pos_right g h1;grind
theorem zug {K N F R:Rat} (hN:0<N) (_:0<K) (h1:(F-mkRat 1 2)*(F-mkRat 1 2)<=12*N*(12*N)*R) (h2:12*N*(12*N)*R<(F+mkRat 1 2)*(F+mkRat 1 2)) (lo hi:Rat) (hlo:lo=F*(1/N)*(K/12)-K/(24*N)) (hhi:hi=F*(1/N)*(K/12)+K/(24*N)):
 lo*lo<=K*K*R/\K*K*R<=hi*hi/\lo=K/(12*N)*(F-mkRat 1 2)/\hi=K/(12*N)*(F+mkRat 1 2):=by
 have hh:mkRat 1 2=1/2:=by decide+kernel
 obtain⟨t,ht⟩:=zzX (K/(12*N));have e0:t*(12*N)=K:=by grind
 have e1:lo=t*(F-mkRat 1 2):=by rw[hlo,hh];grind
 have e2:hi=t*(F+mkRat 1 2):=by rw[hhi,hh];grind
 have h3:=Rat.mul_le_mul_of_nonneg_left h1 (zmg t);have h4:=Rat.mul_le_mul_of_nonneg_left (Rat.le_of_lt h2) (zmg t);have e3:t*t*(12*N*(12*N)*R)=K*K*R:=by rw[<-e0];grind
 rw[<-ht];exact⟨by rw[e1];grind,by rw[e2];grind,e1,e2⟩
theorem zzm (f q:Rat):nrT (f,q)=(f*lenC q,lenR q):=by unfold nrT lenC lenR;rfl
theorem z0g (f q C:Rat) (R:Nat) (hT:nrT (f,q)=(C,R)) (hC:C≠0) (sC:sz C 30) (hR:NrmR R) (sf:sz f 140) (h0:0<q) (sq:sz q 90) (W:zA) (a:Nat) (hw:Hw W) (c0:W.cell? ⟨a,0,none⟩=some (St (numS f))) (c1:W.cell? ⟨a,1,none⟩=some (St (numS q))):
 Calls zF 13 #[.slice (some ⟨a,0,none⟩) 1 1] W λe w'=>∃q' k c,e=.returned (.tuple #[.slice q' k c,.int .i64 0])/\Below W.heap.size W w'/\SdL (.slice q' k c) [(C,R)] w':=by
 have hM:([(f,q)]:List (Rat×Rat)).map nrT=[(C,R)]:=by rw[List.map_cons,List.map_nil,hT]
 have hU:MkU [(f,q)]:=⟨by rw[hM];exact zw7 (by simp) (λc hc=>by obtain rfl:=List.mem_singleton.1 hc;exact⟨hC,sC,hR⟩),λu hu=>by obtain rfl:=List.mem_singleton.1 hu;exact h0,λu hu=>by obtain rfl:=List.mem_singleton.1 hu;exact sf,λu hu=>by obtain rfl:=List.mem_singleton.1 hu;exact sq⟩;have hs:SdU (.slice (some ⟨a,0,none⟩) 1 1) [(f,q)] W:=⟨_,1,rfl,Nat.le_refl _,λi u hu=>by
  match i,hu with
  |0,hu=>injection hu with hu;subst hu;exact⟨a,0,rfl,zbe c0,c0,c1⟩⟩
 refine(z0f [(f,q)] hU _ W hw.d hw.p hs).mono λe w' h=>?_;rw[hM,zzl hC] at h;obtain⟨v,e1,hb,hv⟩:=h.ok (λc hc=>by obtain rfl:=List.mem_singleton.1 hc;exact sC.mono (by omega));obtain⟨q',k,c,rfl⟩:=hv.any;exact⟨q',k,c,e1,hb,hv⟩
theorem z0h (f q:Rat) (hf:0<f) (sf:sz f 2) (h0:0<q) (sq:sz q 8) (W:zA) (a:Nat) (hw:Hw W) (c0:W.cell? ⟨a,0,none⟩=some (St (numS f))) (c1:W.cell? ⟨a,1,none⟩=some (St (numS q))):
 Calls zF 13 #[.slice (some ⟨a,0,none⟩) 1 1] W λe w'=>∃q' k c,e=.returned (.tuple #[.slice q' k c,.int .i64 0])/\Below W.heap.size W w'/\SdL (.slice q' k c) [(f*lenC q,lenR q)] w':=by
 obtain⟨ht,sc,hp, -⟩:=ze3 (k:=8) (by omega) (by omega) h0 sq;have hp2:0<f*lenC q:=Rat.mul_pos hf hp;have s10:sz (f*lenC q) 10:=zca sf sc;exact z0g f q _ _ (zzm f q) (by grind) (s10.mono (by omega)) ht.nr (sf.mono (by omega)) h0 (sq.mono (by omega)) W a hw c0 c1
theorem zxz (P:Rat) (N:Nat) (h1:1<=N) (h2:N<=64) (h0:0<P) (h48:P<=48) (sP:sz P 2):
 ∃F:Nat,zmi (12*(N:Rat)*(12*(N:Rat))*(1+P*P)) F/\F<100000/\∀w:zA,Hw w->Calls zF 29 #[St (numS P),.int .i64 (N:Int)] w λe w'=>∃g c,e=.returned (.tuple #[.slice (some ⟨g,0,none⟩) 6 c,.int .i64 0])/\Below w.heap.size w w'/\w'.cell? ⟨g,0,none⟩=some (St (numS ((F:Rat)*(1/(N:Rat))))):=by
 have hf0:∀i,(0:Rat)<((facT i:Nat):Rat):=λi=>by have:=(zm2 i).1;exact_mod_cast (by omega:0<facT i)
 have sf:∀i,sz ((facT i:Nat):Rat) 2:=λi=>sz_k _ 2 (by omega) (by have:=(zm2 i).2;omega);have hN0:(0:Rat)<(N:Rat):=by exact_mod_cast h1
 have hN64:(N:Rat)<=64:=by exact_mod_cast h2
 have H:∀i,∃F:Nat,zmi (((facT i:Nat):Rat)*(N:Rat)*(((facT i:Nat):Rat)*(N:Rat))*radT P i) F/\F<100000/\∀(W:zA) (v:Value),Hw W->SdL v [(((facT i:Nat):Rat)*lenC (radT P i),lenR (radT P i))] W->qJ 87 #[v,St (numS (1/(N:Rat)))] W (.tuple #[St (numS ((F:Rat)*(1/(N:Rat)))),.int .i64 0]):=λi=>by
  obtain⟨r0,r1,r2,r3,r4⟩:=zix h0 h48 sP i;obtain⟨ht,sc,hp,e⟩:=ze3 (k:=8) (by omega) (by omega) r0 r2;have s10:sz (((facT i:Nat):Rat)*lenC (radT P i)) 10:=zca (sf i) sc;have e2:((facT i:Nat):Rat)*lenC (radT P i)*(N:Rat)*(((facT i:Nat):Rat)*lenC (radT P i)*(N:Rat))*((lenR (radT P i):Nat):Rat)=((facT i:Nat):Rat)*(N:Rat)*(((facT i:Nat):Rat)*(N:Rat))*radT P i:=by
   have:((facT i:Nat):Rat)*lenC (radT P i)*(N:Rat)*(((facT i:Nat):Rat)*lenC (radT P i)*(N:Rat))*((lenR (radT P i):Nat):Rat)=((facT i:Nat):Rat)*(N:Rat)*(((facT i:Nat):Rat)*(N:Rat))*(lenC (radT P i)*lenC (radT P i)*((lenR (radT P i):Nat):Rat)):=by grind
   rw[this,e]
  have hB:((facT i:Nat):Rat)*(N:Rat)*(((facT i:Nat):Rat)*(N:Rat))*radT P i<9000000000:=by
   have hf:((facT i:Nat):Rat)<=24:=by exact_mod_cast (zm2 i).2
   have a1:((facT i:Nat):Rat)*(N:Rat)<=24*64:=by
    have b1:=Rat.mul_le_mul_of_nonneg_right hf (Rat.le_of_lt hN0);have b2:=Rat.mul_le_mul_of_nonneg_left hN64 (show(0:Rat)<=24 by decide);grind
   have a2:=zec (Rat.le_of_lt (Rat.mul_pos (hf0 i) hN0)) a1;have b1:=Rat.mul_le_mul_of_nonneg_right a2 (Rat.le_of_lt r0);have b2:=Rat.mul_le_mul_of_nonneg_left r1 (show(0:Rat)<=24*64*(24*64) by decide+kernel);have b3:(24*64*(24*64)*2306:Rat)<9000000000:=by decide+kernel
   grind
  rw[<-e2] at hB⊢;exact zxx ht.nr (Rat.mul_pos (hf0 i) hp) s10 h1 h2 hB
 obtain⟨F,hF⟩:=Classical.axiomOfChoice H;have r0':radT P 0=1+P*P:=by unfold radT numB;rw[if_pos (by omega),if_neg (by omega)]
 have n0:=(hF 0).1;rw[r0',show((facT 0:Nat):Rat)=12 from rfl] at n0;obtain⟨q0,hq0⟩:=zno (Rat.le_of_lt h0);refine⟨F 0,n0,(hF 0).2.1,λw hw=>?_⟩
 refine zub ⟨(numS P).toArray⟩ (numS (P*P)) (numS (1/(N:Rat))) (N:Int) (λi=>numS (radT P i)) (λi=>numS ((F i:Rat)*(1/(N:Rat)))) (λi=>[(((facT i:Nat):Rat)*lenC (radT P i),lenR (radT P i))]) (zr0 (by grind)).1 q0 hq0 w
  (hid λW hW=>zfj P (zd0 (by omega) (by omega) sP) W (hw.below hW).wd)
  (hid λW hW=>zw9 (N:Int) _ ⟨by omega,by omega⟩ W (hid (by
    have:=z7l 1 N (by omega) (by omega) (by omega) W (hw.below hW).wd;rw[zc9] at this;exact this)))
  (hid λW hW=>zjf P P 2 2 (by omega) (by omega) (by omega) sP sP W (hw.below hW).wd)
  (hid λi hi W b hW hc=>?_) (hid λi hi W a hW c0 c1=>?_) (hid λi hi W v hW hv=>(hF i).2.2 W v (hw.below hW) hv)
 ·obtain⟨r0,r1,r2,r3,r4⟩:=zix h0 h48 sP i
  obtain⟨hn,sn⟩:=zmk i;have hW':=(hw.below hW).wd;have ad:=zje (numB i) (P*P) 1 4 (by omega) (by omega) (by omega) sn (zca sP sP) W hW';rw[<-zr5] at ad;show Calls _ _ _ _ λe w'=>e=.returned (.tuple #[St (numS (radT P i)),.int .i64 0])/\_;unfold rowG radT;split
  ·exact zs7 (rowA i) _ _ b W (hid hc) (hid ad)
  ·refine zs8 (rowA i) _ (numS (numB i+P*P)) _ b W (hid hc) (hid ad) (hid λV hV=>?_)
   have:=zoj (numB i) (numB i+P*P) (by grind) 1 6 (by omega) (by omega) (by omega) sn r3 V (hW'.below hV);rw[<-zr5] at this;exact this
 ·obtain⟨r0,r1,r2,r3,r4⟩:=zix h0 h48 sP i
  rw[zxy] at c0;exact(z0h ((facT i:Nat):Rat) (radT P i) (hf0 i) (sf i) r0 r2 W a (hw.below hW) c0 c1)
theorem zzo (a b c n:Nat) (ha:a<256) (hb:b<256) (hc:c<256) (hn:n<256) (w:zA) (hw:Hw w):
 qJ 6 #[.int .u8 (a:Int),.int .u8 (b:Int),.int .u8 (c:Int),.int .u8 (n:Int)] w (.bool true):=by
 have m1:∀k:Nat,1<=1+k%48/\1+k%48<=48:=λk=>by have:=Nat.mod_lt k (show 0<48 by omega);omega
 have mN:1<=1+n%64/\1+n%64<=64:=by have:=Nat.mod_lt n (show 0<64 by omega);omega
 obtain⟨A,hA⟩:=zzX (1+a%48);obtain⟨B,hB⟩:=zzX (1+b%48);obtain⟨K,hK⟩:=zzX (1+c);obtain⟨N,hN⟩:=zzX (1+n%64);have a1:=m1 a;have b1:=m1 b;rw[<-hA] at a1;rw[<-hB] at b1;rw[<-hN] at mN;have k1:1<=K/\K<=256:=by omega
 obtain⟨P,hP⟩:=zzX (((A:Nat):Rat)/((B:Nat):Rat));obtain⟨P0,P1⟩:=zj4 A B a1.2 b1.1;have hA0:(0:Rat)<(A:Rat):=by exact_mod_cast a1.1
 have hB0:(0:Rat)<(B:Rat):=by exact_mod_cast b1.1
 have hK0:(0:Rat)<(K:Rat):=by exact_mod_cast k1.1
 have hN0:(0:Rat)<(N:Rat):=by exact_mod_cast mN.1
 have Ppos:0<((A:Nat):Rat)/((B:Nat):Rat):=div_pos hA0 hB0;rw[<-hP] at P0 P1 Ppos;have sP:sz P 2:=by rw[hP];exact zfr A B 2 (by omega) (by omega) (by omega)
 have sK:sz (K:Rat) 3:=sz_k K 3 (by omega) (by omega);obtain⟨F,ns,hF5,tb⟩:=zxz P N mN.1 mN.2 Ppos P1 sP;obtain⟨Q,hQ⟩:∃Q,(K:Rat)*(K:Rat)+0*0+(K:Rat)*P*((K:Rat)*P)=Q:=⟨_,rfl⟩;have eQ:Q=(K:Rat)*(K:Rat)*(1+P*P):=by rw[<-hQ];grind
 have Q0:0<Q:=by
  have h1:=Rat.mul_pos hK0 hK0;have h2:=zmg P;rw[eQ];exact Rat.mul_pos h1 (by grind)
 have sQ:sz Q 9:=by
  have e:Q=((K*K*(B*B+A*A):Nat):Rat)/((B*B:Nat):Rat):=by
   rw[eQ,hP];push_cast;grind
  rw[e];have l1:K*K<=256*256:=Nat.mul_le_mul k1.2 k1.2;have l2:B*B<=48*48:=Nat.mul_le_mul b1.2 b1.2;have l3:A*A<=48*48:=Nat.mul_le_mul a1.2 a1.2;have l4:K*K*(B*B+A*A)<=256*256*(48*48+48*48):=Nat.mul_le_mul l1 (Nat.add_le_add l2 l3);exact zfr _ _ 9 (Nat.mul_pos b1.1 b1.1) (by omega) (by omega)
 obtain⟨ht,sL,L0,eL⟩:=ze3 (k:=9) (by omega) (by omega) Q0 sQ;have F1:1<=F:=by
  rcases Nat.eq_zero_or_pos F with e|e
  ·exfalso
   have h1:=ns.2;rw[e] at h1;have h2:=zmg P;have hN1:(1:Rat)<=(N:Rat):=by exact_mod_cast mN.1
   have h3:=zec (show(0:Rat)<=12 by decide) (show 12<=12*(N:Rat) by grind);have h4:=Rat.mul_le_mul_of_nonneg_left (show 1<=1+P*P by grind) (zmg (12*(N:Rat)));have h5:(((0:Nat):Rat)+mkRat 1 2)*(((0:Nat):Rat)+mkRat 1 2)<1:=by decide+kernel
   grind
  ·exact e
 have hF1:(1:Rat)<=(F:Rat):=by exact_mod_cast F1
 obtain⟨own,hown⟩:=zzX ((F:Rat)*(1/(N:Rat))*((K:Rat)/12));obtain⟨most,hmost⟩:=zzX ((K:Rat)/(24*(N:Rat)));obtain⟨lo,hlo⟩:=zzX (own-most);obtain⟨hi,hhi⟩:=zzX (own+most);obtain⟨v1,v2,v3,v4⟩:=zug hN0 hK0 (ns.1 F1) ns.2 lo hi (by rw[hlo,hown,hmost]) (by rw[hhi,hown,hmost]);have ht0:0<(K:Rat)/(12*(N:Rat)):=div_pos hK0 (by grind);have hlt:mkRat 1 2<1:=by decide+kernel
 have hgt:0<mkRat 1 2:=by decide+kernel
 have lo0:0<lo:=by rw[v3];exact Rat.mul_pos ht0 (by grind)
 have hi0:0<hi:=by rw[v4];exact Rat.mul_pos ht0 (by grind)
 have hm0:0<most:=by rw[hmost];exact div_pos hK0 (by grind)
 have hh:mkRat 1 2=1/2:=by decide+kernel
 have slo:sz lo 8:=by
  have e:lo=((K*(2*F-1):Nat):Rat)/((24*N:Nat):Rat):=by
   have e1:((2*F-1:Nat):Rat)=2*(F:Rat)-1:=by
    have:((2*F-1:Nat):Rat)+1=2*(F:Rat):=by exact_mod_cast (by omega:2*F-1+1=2*F)
    grind
   rw[v3,hh];push_cast;rw[e1];grind
  rw[e];have l1:K*(2*F-1)<=256*200000:=Nat.mul_le_mul k1.2 (by omega);exact zfr _ _ 8 (by omega) (by omega) (by omega)
 have shi:sz hi 8:=by
  have e:hi=((K*(2*F+1):Nat):Rat)/((24*N:Nat):Rat):=by
   rw[v4,hh];push_cast;grind
  rw[e];have l1:K*(2*F+1)<=256*200000:=Nat.mul_le_mul k1.2 (by omega);exact zfr _ _ 8 (by omega) (by omega) (by omega)
 have sown:sz own 8:=by
  have e:own=((F*K:Nat):Rat)/((12*N:Nat):Rat):=by rw[hown];push_cast;grind
  rw[e];have l1:F*K<=100000*256:=Nat.mul_le_mul (by omega) k1.2;exact zfr _ _ 8 (by omega) (by omega) (by omega)
 have smost:sz most 4:=by
  have e:most=((K:Nat):Rat)/((24*N:Nat):Rat):=by rw[hmost];push_cast;rfl
  rw[e];exact zfr _ _ 4 (by omega) (by omega) (by omega)
 have sF:sz ((F:Rat)*(1/(N:Rat))) 5:=by
  rw[show(F:Rat)*(1/(N:Rat))=((F:Nat):Rat)/((N:Nat):Rat) by grind];exact zfr _ _ 5 (by omega) (by omega) (by omega)
 have sS:sz ((K:Rat)/12) 3:=by
  have:=zfr K 12 3 (by omega) (by omega) (by omega);exact this
 obtain⟨x1,y1, -,c1⟩:=zlc ht.nr L0 (sL.mono (by omega)) (slo.mono (by omega)) lo0;obtain⟨x2, -,y2,c2⟩:=zlc ht.nr L0 (sL.mono (by omega)) (shi.mono (by omega)) hi0;rw[eL,eQ] at y1 y2;obtain⟨q0,hq0⟩:=zno (Rat.le_of_lt hm0);have z0:numS 0=[48]:=nm0;have WD:=λ(W:zA) (h:qL w W)=>(hw.below h).wd;refine zs6 a b c n ha hb hc hn (numS P) (numS ((F:Rat)*(1/(N:Rat)))) (numS (K:Rat)) (numS ((K:Rat)*P)) (numS ((K:Rat)/12)) (numS own) (numS most) [(lenC Q,lenR Q)] w (hid ?_);rw[<-hA,<-hB,<-hK,<-hN];refine⟨λW hW=>?_,λW hW=>tb W (hw.below hW),λW hW=>?_,λW hW=>zjf _ _ 3 2 (by omega) (by omega) (by omega) sK sP W (WD W hW),λW hW=>?_,λW hW=>?_,λW hW=>?_,λW hW=>?_,λW v hW hv=>?_,λW hW=>?_,λW hW=>zp4 W (hw.below hW)⟩
 ·have:=zjh (A:Int) (B:Int) _ ⟨by omega,by omega⟩ ⟨by omega,by omega⟩ (hid λV hV=>z7l A B (by omega) (by omega) (by omega) V hV) W (hid (WD W hW))
  rw[<-hP] at this;exact this
 ·have:=z7l K 1 (by omega) (by omega) (by omega) W (WD W hW)
  rw[zc9,show((K:Nat):Rat)/1=(K:Rat) by grind] at this;exact this
 ·have:=lenQ (K:Rat) 0 ((K:Rat)*P) Q (sK.mono (by omega)) (zd2 14 (by omega)) ((zca sK sP).mono (by omega)) (by grind) hQ Q0 (sQ.mono (by omega)) W (hw.below hW)
  unfold memQ at this;rw[z0] at this;refine this.mono λe w' ⟨b,c,hc,e1,hb,h0,h1⟩=>⟨b,c,e1,hb,?_⟩;exact(zft _ _ ht w' b ((hw.below hW).below hb) h0 h1 c hc).1
 ·have:=z7l K 12 (by omega) (by omega) (by omega) W (WD W hW)
  exact this
 ·have:=zjf ((F:Rat)*(1/(N:Rat))) ((K:Rat)/12) 5 3 (by omega) (by omega) (by omega) sF sS W (WD W hW)
  rw[<-hown] at this;exact this
 ·have:=z7l K (24*N) (by omega) (by omega) (by omega) W (WD W hW)
  rw[show((K:Nat):Rat)/((24*N:Nat):Rat)=most by rw[hmost];push_cast;rfl] at this;exact this
 ·have hW':=hw.below hW
  refine zs5 v (numS own) (numS lo) (numS hi) ⟨(numS most).toArray⟩ q0 hq0 (rs lo) (rs hi) x1 x2 (y1 v1) (y2 v2) W
   (hid λV hV=>zbh v _ (SdOk.one ht) V (hW'.below hV).wd (hW'.below hV).pw (hv.below hV)) (hid λV hV=>zfj own (zd0 (by omega) (by omega) sown) V (hW'.below hV).wd) (hid λV hV=>zfj most (zd0 (by omega) (by omega) smost) V (hW'.below hV).wd)
   (hid λV hV=>?_) (hid λV hV=>?_) (hid λV hV=>zpd lo (slo.mono (by omega)) V (hW'.below hV)) (hid λV hV=>zpd hi (shi.mono (by omega)) V (hW'.below hV)) (hid λV u hV hu=>c1 V v u (hW'.below hV) (hv.below hV) hu) (hid λV u hV hu=>c2 V v u (hW'.below hV) (hv.below hV) hu)
  ·have:=ztz own most 8 4 (by omega) (by omega) (by omega) sown smost V (hW'.below hV).wd
   rw[<-hlo] at this;exact this
  ·have:=zje own most 8 4 (by omega) (by omega) (by omega) sown smost V (hW'.below hV).wd
   rw[<-hhi] at this;exact this
 ·refine(zt5 (numS own) ?_ W (WD W hW)).mono λe w' ⟨r,e1,h,hb⟩=>?_
  ·have:=zzv (by omega) sown;omega
  ·rw[h.2 ⟨own,rfl,zd0 (by omega) (by omega) sown⟩] at e1
   exact⟨e1,hb⟩
end
section
open Go.RowKit Go.Shelf Lib Str Limb
open Go.ChangeShapes Go.WideShapes Go.ChangeAt
theorem zea {H:Type} {enc:TypeId×Value->H} {W:zA} {base:Nat} {sp:Nat->Bool} {held:Bool} {v:Value} {d:DataW H} {ps:List MemPlace} {r:Reach} {b0:Nat}
 (hval:Value.okWide zF W r b0 5 v) (hd:DataW.Trod enc zF W base sp held 5 v d ps):∃n:Nat,n<256/\v=.int .u8 (n:Int)/\ps=[]:=by
 obtain⟨n,rfl⟩:=okWide_int Tryz.underlying5 hval;obtain⟨fuel,hf⟩:=hd;obtain⟨m,e,hx,hw⟩:=DataW.trod_int Tryz.underlying5 hf;have hm:n=m:=by simpa [Value.cells] using e
 subst hm;simp[Lit.wf,IntKind.min,IntKind.max,IntKind.signed,IntKind.bits] at hw;simp only[Prod.mk.injEq] at hx;exact⟨n.toNat,by omega,by rw[show((n.toNat:Nat):Int)=n by omega],hx.2⟩
theorem zf5 (os:Os) (started:os.Started) (H:Type) (enc:TypeId×Value->H):
 ReturnsInHanded {} Tryz.checked os 6 .any (λw args=>(Rows.topTableLengthsSpec.pre enc zF Tryz.f6 [] false w args/\laidMetH zF Rows.topTableLengthsRow.laid w)/\sizedMet enc zF Tryz.f6 (OpenSpec.ofChange Rows.topTableLengthsSpec) false w args)
  (Rows.topTableLengthsSpec.post enc zF Tryz.f6 false true false false):=by
 refine zf9 (C:=Tryz.checked) (X:=λw _=>laidMetH zF Rows.topTableLengthsRow.laid w) (λ_ _ _ hh h=>h.of_heap hh) zrj started (by kernel_rfl) Tryz.func6
  (ChangeSpec.witness_shaped (enc:=enc) (C:=Tryz.checked) (os:=os) (X:=λw _=>laidMetH zF Rows.topTableLengthsRow.laid w) false (World.laidAll zF os Rows.topTableLengthsRow.laid)
    #[.int .u8 0,.int .u8 0,.int .u8 0,.int .u8 0] 8 (World.laidAll_os _ _ _)
    (World.shaped_of_ZipB (by kernel_rfl) (by kernel_rfl)) (by kernel_rfl) (by kernel_rfl) (by kernel_rfl)
    (by rw[MakeChecks.laidMetH_plain _ _ _ (by kernel_rfl)];exact laidMet_laidAll _ (by kernel_rfl) (by kernel_rfl))) ?_
 intro W args ds gs before base hval0 hW hL hsh;have hval:∀(j:Nat) t v,Tryz.f6.params[j]? =some t->args[j]? =some v->Value.okWide zF W .any base t v:=hval0;have hW':=hW;obtain⟨p,q,hA0,hV,rfl,_,_⟩:=hW;have hA:DataW.TrodAll enc zF W 0 (λ_=>true) true Tryz.f6.params.toList args.toList ds p:=hA0;rw[Tryz.params6] at hA hval;obtain⟨v0,vs0,d0,ds0,p0,q0,e0,rfl,rfl,h0,hA⟩:=trodAll_cons hA;obtain⟨v1,vs1,d1,ds1,p1,q1,rfl,rfl,rfl,h1,hA⟩:=trodAll_cons hA;obtain⟨v2,vs2,d2,ds2,p2,q2,rfl,rfl,rfl,h2,hA⟩:=trodAll_cons hA;obtain⟨v3,vs3,d3,ds3,p3,q3,rfl,rfl,rfl,h3,hA⟩:=trodAll_cons hA;obtain⟨rfl,rfl,rfl⟩:=trodAll_nil hA;obtain rfl:args= #[v0,v1,v2,v3]:=by cases args;simp_all
 obtain⟨rfl,rfl⟩:=trodVars_none hV;obtain⟨n0,g0,rfl,rfl⟩:=zea (hval 0 5 v0 rfl rfl) h0;obtain⟨n1,g1,rfl,rfl⟩:=zea (hval 1 5 v1 rfl rfl) h1;obtain⟨n2,g2,rfl,rfl⟩:=zea (hval 2 5 v2 rfl rfl) h2;obtain⟨n3,g3,rfl,rfl⟩:=zea (hval 3 5 v3 rfl rfl) h3;simp only[List.append_nil] at hW';have hM:laidMet zF Rows.topTableLengthsRow.laid W:=by rw[<-MakeChecks.laidMetH_plain _ _ _ (by kernel_rfl)];exact hL
 have hwd:Wd W:=z0v hM (.tail _ (.tail _ (.head _))) hsh;have hpw:Pw W:=z0w hM (.tail _ (.tail _ (.tail _ (.tail _ (.tail _ (.tail _ (.head _)))))));have hsw:Spw W:=z80 hM (.tail _ (.tail _ (.tail _ (.tail _ (.tail _ (.tail _ (.tail _ (.head _))))))));refine(zzo n0 n1 n2 n3 g0 g1 g2 g3 W ⟨hwd,hpw,hsw⟩).mono λe W' ⟨he,hb⟩=>?_;subst he;have k:=λ{v:Value} {d:DataW H} (h:DataW.Trod enc zF W 0 (λ_=>true) true 5 v d [])=>Below.trod zgh (by kernel_rfl) (of_decide_eq_true (by kernel_rfl)) h hb (λ_ h=>by cases h);exact⟨_,rfl,_,_,_,[],[],[],hW',trodAll_mk1 (shut_bool Tryz.underlying4 _),trodAll_mk4 (k h0) (k h1) (k h2) (k h3),rfl,hb.frame _,λh=>by cases h⟩
theorem zzp:mapsRowed zF=true:=by kernel_rfl
theorem z0i:namedTie zF Rows.topTableLengthsRow.named Rows.topTableLengthsSpec.vars=true:=by kernel_rfl
theorem zx0:(Rows.topTableLengthsRow.inPlace==Tryz.prog.inPlace 6)=true:=by kernel_rfl
theorem z0j:(Rows.topTableLengthsRow.unfollowed==Tryz.prog.unfollowed 6)=true:=by kernel_rfl
theorem z0k:(Rows.topTableLengthsRow.recurses==Tryz.prog.recurses 6)=true:=by kernel_rfl
theorem zx3:(Rows.topTableLengthsRow.named==Tryz.prog.varsNamed 6)=true:=by kernel_rfl
theorem zx4:Tryz.prog.stopsHeard=true:=by kernel_rfl
theorem zx6:Tryz.prog.mayEnter=true:=by kernel_rfl
theorem zxa:(Rows.topTableLengthsRow.lifted==Tryz.prog.liftsFinal)=true:=by kernel_rfl
theorem zzr:(Tryz.prog.make==some Rows.topTableLengthsRow.make)=true:=by kernel_rfl
theorem zzt:(Rows.topTableLengthsRow.plainKeys==Tryz.prog.plainKeys)=true:=by kernel_rfl
theorem zzu:Tryz.pinned.checked.prog.funcNamed Rows.topTableLengthsRow.func=some 6:=by kernel_rfl
theorem z0l:joinedFacts zF 6 Tryz.f6 Rows.topTableLengthsSpec Rows.topTableLengthsRow=true:=by
 unfold joinedFacts;simp only[Bool.and_eq_true]
 repeat' apply And.intro
 all_goals first|with_reducible exact zgh|with_reducible exact zzp|with_reducible exact z0i|with_reducible exact zx0|with_reducible exact z0j|with_reducible exact z0k|with_reducible exact zx3|with_reducible exact zx4|with_reducible exact zx6|with_reducible exact zxa|with_reducible exact zzr|with_reducible exact zzt|kernel_rfl
theorem zhf:Rows.TopTableLengthsSaid:=
 OpenClaim.holds_of_wide 6 Tryz.f6 rfl rfl rfl rfl rfl rfl rfl ⟨rfl,rfl,rfl,rfl,rfl⟩ rfl rfl rfl rfl rfl zzu Tryz.func6 z0l
  (of_decide_eq_true (by kernel_rfl)) (by unfold Func.isWrapper;first|(rw[if_pos (by decide+kernel)];kernel_rfl)|(rw[if_neg (by decide+kernel)];exact⟨rfl,rfl⟩))
  (λos started H enc _=>zf5 os started H enc)
end
end Go.Proofs.YtmeekcnlacckfaaGreatDoor
