/- halfspace.Corner of any half-spaces. -/
import Derived.Test.YtheinkfbiedidaaGreatDoorQ18
import Derived.Test.YtheinkfbiedidaaGreatDoorQ19
import Derived.LaidByTextLater
set_option maxRecDepth 100000
set_option maxHeartbeats 8000000
open Go renaming World → zA, Calls → zC
open Go.Proofs.Tryz renaming prog → zF
open Go.RowKit renaming intOf → zL
open Go.RowKit.Below renaming refl → zM
open Int renaming natAbs_mul → yK
namespace Go.Proofs.YtheinkfbiedidaaGreatDoor
section
open Go.RowKit Go.Shelf Lib Str Limb
def crX (B C:Nat->Rat) (j:Nat):Rat:=B ((j+1)%3)*C ((j+2)%3)-C ((j+1)%3)*B ((j+2)%3)
def crD (A B C:Nat->Rat):Rat:=A 0*crX B C 0+B 0*crX C A 0+C 0*crX A B 0
theorem zka {a b c d e f g h i:Nat} (ha:a<10^8) (hb:b<10^8) (hc:c<10^8) (hd:d<10^8) (he:e<10^8) (hf:f<10^8) (hg:g<10^8) (hh:h<10^8) (hi:i<10^8):a*b*c*(d*e*f*g*h*i)<10^72:=
 zcc (zcc (zcc ha hb) hc) (zcc (zcc (zcc (zcc (zcc hd he) hf) hg) hh) hi)
theorem zch {a b c:Int} {d e f g h i:Nat} (ha:a.natAbs<10^8) (hb:b.natAbs<10^8) (hc:c.natAbs<10^8) (hd:d<10^8) (he:e<10^8) (hf:f<10^8) (hg:g<10^8) (hh:h<10^8) (hi:i<10^8):(a*b*c*((d*e*f*g*h*i:Nat):Int)).natAbs<10^72:=by
 rw[yK,yK,yK,Int.natAbs_natCast];exact zka ha hb hc hd he hf hg hh hi
theorem z0m {a b c d e f:Int} {k:Nat} (ha:a.natAbs<10^k) (hb:b.natAbs<10^k) (hc:c.natAbs<10^k) (hd:d.natAbs<10^k) (he:e.natAbs<10^k) (hf:f.natAbs<10^k):(a-b+(c-d)+(e-f)).natAbs<10^(k+1):=by
 have:(10:Nat)^(k+1)=10*10^k:=by rw[Nat.pow_succ,Nat.mul_comm]
 omega
theorem z19 (a b c d e f g h i:Rat) (ha:sz a 8) (hb:sz b 8) (hc:sz c 8) (hd:sz d 8) (he:sz e 8) (hf:sz f 8) (hg:sz g 8) (hh:sz h 8) (hi:sz i 8):sz (a*(e*i-f*h)+b*(f*g-d*i)+c*(d*h-e*g)) 73:=by
 have D:(a.den*b.den*c.den*(d.den*e.den*f.den*g.den*h.den*i.den))<10^72:=zka ha.2 hb.2 hc.2 hd.2 he.2 hf.2 hg.2 hh.2 hi.2;have N:=z0m (zch ha.1 he.1 hi.1 hb.2 hc.2 hd.2 hf.2 hg.2 hh.2) (zch ha.1 hf.1 hh.1 hb.2 hc.2 hd.2 he.2 hg.2 hi.2) (zch hb.1 hf.1 hg.1 ha.2 hc.2 hd.2 he.2 hh.2 hi.2) (zch hb.1 hd.1 hi.1 ha.2 hc.2 he.2 hf.2 hg.2 hh.2) (zch hc.1 hd.1 hh.1 ha.2 hb.2 he.2 hf.2 hg.2 hi.2) (zch hc.1 he.1 hg.1 ha.2 hb.2 hd.2 hf.2 hh.2 hi.2);have nz:(a.den*b.den*c.den*(d.den*e.den*f.den*g.den*h.den*i.den))≠0:=by
  refine Nat.mul_ne_zero (Nat.mul_ne_zero (Nat.mul_ne_zero a.den_nz b.den_nz) c.den_nz) (Nat.mul_ne_zero (Nat.mul_ne_zero (Nat.mul_ne_zero (Nat.mul_ne_zero (Nat.mul_ne_zero d.den_nz e.den_nz) f.den_nz) g.den_nz) h.den_nz) i.den_nz)
 have S:=zig (k:=73) (d:=((a.den*b.den*c.den*(d.den*e.den*f.den*g.den*h.den*i.den):Nat):Int)) (by exact_mod_cast nz) N (by rw[Int.natAbs_natCast];omega);rw[Rat.divInt_eq_div] at S;refine cast (congrArg (λq=>sz q 73) ?_) S;have nz':((a.den*b.den*c.den*(d.den*e.den*f.den*g.den*h.den*i.den):Nat):Rat)≠0:=by exact_mod_cast nz
 have ea:=zb0 a;have eb:=zb0 b;have ec:=zb0 c;have ed:=zb0 d;have ee:=zb0 e;have ef:=zb0 f;have eg:=zb0 g;have eh:=zb0 h;have ei:=zb0 i;simp only[Rat.intCast_add,Rat.intCast_sub,Rat.intCast_mul,Rat.intCast_natCast,Rat.natCast_mul] at nz'⊢;rw[ea,eb,ec,ed,ee,ef,eg,eh,ei];generalize (a.den:Rat)=a' at*
 generalize (b.den:Rat)=b' at*
 generalize (c.den:Rat)=c' at*
 generalize (d.den:Rat)=d' at*
 generalize (e.den:Rat)=e' at*
 generalize (f.den:Rat)=f' at*
 generalize (g.den:Rat)=g' at*
 generalize (h.den:Rat)=h' at*
 generalize (i.den:Rat)=i' at*
 rw[Rat.div_def];refine Eq.trans ?_ (show(a*(e*i-f*h)+b*(f*g-d*i)+c*(d*h-e*g))*(a'*b'*c'*(d'*e'*f'*g'*h'*i'))*(a'*b'*c'*(d'*e'*f'*g'*h'*i'))⁻¹ =_ by rw[Rat.mul_assoc,Rat.mul_inv_cancel _ nz',Rat.mul_one]);congr 1;grind
def crI (A B C:Nat->Rat):Rat:=1/crD A B C
def crL (A B C:Nat->Rat) (D:Nat->List (Rat×Nat)) (P Q:Nat->Rat):List (Rat×Nat):=sdM2 (D 0) (D 1) (D 2) (crX P Q 0*crI A B C) (crX P Q 1*crI A B C) (crX P Q 2*crI A B C)
structure CrH (A B C:Nat->Rat) (D:Nat->List (Rat×Nat)):Prop where
 a:∀i,sz (A i) 8
 b:∀i,sz (B i) 8
 c:∀i,sz (C i) 8
 nz:∀i,A i≠0\/B i≠0\/C i≠0
 ok:∀i,SdOk (D i)
 len:∀i,(D i).length<=2
 sm:∀i,∀t∈D i,sz t.1 8
theorem zgn {P Q:Nat->Rat} (hp:∀i,sz (P i) 8) (hq:∀i,sz (Q i) 8) (j:Nat):sz (crX P Q j) 33:=z0i (zca (hp _) (hq _)) (zca (hq _) (hp _))
section
variable {A B C:Nat->Rat} {D:Nat->List (Rat×Nat)}
theorem CrH.det (h:CrH A B C D):sz (crD A B C) 73:=by
 have:=z19 (A 0) (B 0) (C 0) (A 1) (B 1) (C 1) (A 2) (B 2) (C 2) (h.a 0) (h.b 0) (h.c 0) (h.a 1) (h.b 1) (h.c 1) (h.a 2) (h.b 2) (h.c 2);refine cast (congrArg (λq=>sz q 73) ?_) this;show _=A 0*(B 1*C 2-C 1*B 2)+B 0*(C 1*A 2-A 1*C 2)+C 0*(A 1*B 2-B 1*A 2);grind
theorem CrH.inv (h:CrH A B C D) (hd:crD A B C≠0):sz (crI A B C) 74:=(z8t hd (zb7.2.1.mono (by omega):sz 1 1) h.det).mono (by omega)
theorem CrH.len3 (h:CrH A B C D) (a b c:Rat):(D 0).length+(D 1).length<=12/\(sdM1 (D 0) (D 1) a b).length+(D 2).length<=12/\(sdM2 (D 0) (D 1) (D 2) a b c).length+([]:List (Rat×Nat)).length<=12:=
 zo6 [] _ _ _ _ _ _ (by have:=h.len 0;have:=h.len 1;have:=h.len 2;simp;omega)
end
theorem zmc (A B C:Nat->Rat) (D:Nat->List (Rat×Nat)) (h:CrH A B C D) (v:Nat->Value) (w:zA) (hw:Hw w) (hv:∀i,SdL (v i) (D i) w):
 zC zF 8 #[.agg #[St (numS (A 0)),St (numS (B 0)),St (numS (C 0)),v 0],.agg #[St (numS (A 1)),St (numS (B 1)),St (numS (C 1)),v 1],.agg #[St (numS (A 2)),St (numS (B 2)),St (numS (C 2)),v 2]] w λe w'=>∃u0 u1 u2 bb er,e=.returned (.tuple #[.agg #[u0,u1,u2],.bool bb,.int .i64 er])/\Below w.heap.size w w'/\
  ((bb=false/\u0=.slice none 0 0/\u1=.slice none 0 0/\u2=.slice none 0 0/\((er=0/\crD A B C=0)\/er=4))\/
    (bb=true/\er=0/\crD A B C≠0/\SdL u0 (crL A B C D B C) w'/\SdL u1 (crL A B C D C A) w'/\SdL u2 (crL A B C D A B) w'/\SdOk (crL A B C D B C)/\SdOk (crL A B C D C A)/\SdOk (crL A B C D A B))):=by
 have H:=λ(W:zA) (h:qL w W)=>hw.below h;have hany:∀i,∃q m c,v i=.slice q m c:=λi=>(hv i).any;have nz:(numS (crD A B C)==[48])=false->crD A B C≠0:=λk e=>by rw[e,zie] at k;cases k
 have sd:=h.det;have m60:∀{q:Rat},sz q 8->sz q 60:=λh=>h.mono (by omega);have m30:∀{q:Rat},sz q 8->sz q 30:=λh=>h.mono (by omega);have s3:∀i,sz3 (A i) (B i) (C i) 30:=λi=>⟨m30 (h.a i),m30 (h.b i),m30 (h.c i)⟩;have x33:∀j,sz3 (crX B C j) (crX C A j) (crX A B j) 33:=λj=>⟨zgn h.b h.c j,zgn h.c h.a j,zgn h.a h.b j⟩;have ex:∀{P Q:Nat->Rat},(∀i,sz (P i) 8)->(∀i,sz (Q i) 8)->crD A B C≠0->∀j,sz (crX P Q j*crI A B C) 107:=λhp hq hd j=>zca (zgn hp hq j) (h.inv hd);have SD:∀(P Q:Nat->Rat),(∀i,sz (P i) 8)->(∀i,sz (Q i) 8)->Hid ((numS (crD A B C)==[48])=false->∀W:zA,qL w W->zC zF 34 #[.agg #[v 0,v 1,v 2],.agg #[St (numS (crX P Q 0*crI A B C)),St (numS (crX P Q 1*crI A B C)),St (numS (crX P Q 2*crI A B C))]] W λe w'=>∃q n c r,e=.returned (.tuple #[.slice q n c,.int .i64 r])/\Below W.heap.size W w'/\OutR (crL A B C D P Q) (SdOk (crL A B C D P Q)) True (.slice q n c) r w'):=λP Q hp hq=>hid λhd W hW=>by
  have e:=ex hp hq (nz hd);have s:∀i j,SclS (D i) (crX P Q j*crI A B C):=λi j t ht=>(zca (h.sm i t ht) (e j)).mono (by omega);have l:=h.len3 (crX P Q 0*crI A B C) (crX P Q 1*crI A B C) (crX P Q 2*crI A B C);refine(zs9 _ _ _ ((e 0).mono (by omega)) ((e 1).mono (by omega)) ((e 2).mono (by omega)) (D 0) (D 1) (D 2) (h.ok 0) (h.ok 1) (h.ok 2) l.1 l.2.1 (s 0 0) (s 1 1) (s 2 2) _ _ _ W (H W hW) ((hv 0).below hW) ((hv 1).below hW) ((hv 2).below hW)).mono λe w' ⟨q,n,c,r,h1,h2,h3⟩=>⟨q,n,c,r,h1,h2,?_⟩;exact h3.imp (λk=>⟨k.1,k.2.1,(k.2.2.ok (h.ok 0) (h.ok 1) (h.ok 2) l.1 l.2.1).2⟩) id
 refine(zrl (λi=>numS (A i)) (λi=>numS (B i)) (λi=>numS (C i)) (λj=>numS (crX B C j)) (λj=>numS (crX C A j)) (λj=>numS (crX A B j)) (λj=>numS (crX B C j*crI A B C)) (λj=>numS (crX C A j*crI A B C)) (λj=>numS (crX A B j*crI A B C)) v hany (numS (crD A B C)) (numS (crI A B C)) (crL A B C D B C) (crL A B C D C A) (crL A B C D A B) _ _ _ True w
  (hid λW hW P hP=>?_) (hid λj hj W hW=>?_) (hid λW hW=>?_) (hid λhd W hW=>?_) (hid λhd j hj W hW=>?_) (SD B C h.b h.c) (SD C A h.c h.a) (SD A B h.a h.b)).mono ?_
 ·refine zef (some ⟨P,0,none⟩) 3 3 _ _ _ v (by omega) (λi _=>hany i) W (hid λi hi V hV=>zc9 (A i) (B i) (C i) (m60 (h.a i)) (m60 (h.b i)) (m60 (h.c i)) (h.nz i) _ _ (h.ok i) V ((H W hW).below hV) (((hv i).below hW).below hV)) (hid λi hi=>?_)
  have hc:=zfr hP i hi;rw[show i*4=0+i*4 by omega] at hc;exact⟨P,0,rfl,hc⟩
 ·exact zgs _ _ _ _ _ _ (s3 _) (s3 _) W (H W hW).wd
 ·exact zt4 _ _ _ _ _ _ ((s3 0).mono (by omega)) ((x33 0).mono (by omega)) W (H W hW).wd
 ·have:=zoj 1 (crD A B C) (nz hd) 1 73 (by omega) (by omega) (by omega) (zb7.2.1.mono (by omega)) sd W (H W hW).wd
  rw[zfc] at this;exact this
 ·exact zf8 _ _ _ _ ((x33 j).mono (by omega)) ((h.inv (nz hd)).mono (by omega)) W (H W hW).wd
 ·rintro e w' ⟨u0,u1,u2,bb,er,e1,hb,h3⟩
  refine⟨u0,u1,u2,bb,er,e1,hb,?_⟩;rcases h3 with⟨k1,k2,k3,k4,k5⟩|⟨k1,k2,k3,k4,k5,k6,k7,k8,k9⟩
  ·refine .inl ⟨k1,k2,k3,k4,?_⟩
   rcases k5 with⟨k5,k6⟩|⟨k5, -, -⟩
   ·refine .inl ⟨k5,Classical.byContradiction λhn=>?_⟩
    rw[zsf hn] at k6;cases k6
   ·exact .inr k5
  ·exact .inr ⟨k1,k2,nz k3,k4,k5,k6,k7,k8,k9⟩
theorem za5 {l:List (Rat×Nat)} (h:PosR l) (c:Rat):PosR (sclR l c):=by
 unfold sclR;split
 ·exact λ_ h=>by cases h
 ·exact zth h c
section
variable {X Y Z D:List (Rat×Nat)} (hX:PosR X) (hY:PosR Y) (hZ:PosR Z) (hD:PosR D)
include hX hY
theorem zhg (a b:Rat):PosR (sdM1 X Y a b):=zn6 (ztb (za5 hX a) (za5 hY b))
theorem z6z (a b:Rat) {r:Nat} (hr:0<r):phi r (sdM1 X Y a b)=phi r X*a+phi r Y*b:=by
 unfold sdM1;rw[zuc hr (ztb (za5 hX a) (za5 hY b)),zo8,zfq,zfq]
include hZ
theorem zgo (a b c:Rat):PosR (sdM2 X Y Z a b c):=zn6 (ztb (zhg hX hY a b) (za5 hZ c))
theorem zpj (a b c:Rat) {r:Nat} (hr:0<r):phi r (sdM2 X Y Z a b c)=phi r X*a+phi r Y*b+phi r Z*c:=by
 unfold sdM2;rw[zuc hr (ztb (zhg hX hY a b) (za5 hZ c)),zo8,zfq,z6z hX hY a b hr]
include hD
theorem zrh (a b c:Rat) (h:∀r,0<r->phi r X*a+phi r Y*b+phi r Z*c=phi r D):sdM3 D X Y Z a b c=[]:=by
 unfold sdM3;refine zt0 (ztb (zgo hX hY hZ a b c) (zth hD (-1))) λr hr=>?_;rw[zo8,zpm,zpj hX hY hZ a b c hr,h r hr];grind
end
theorem zhh {a b c a' b' c' a'' b'' c'' d d' d'' s:Rat} (h:(a*(b'*c''-c'*b'')+b*(c'*a''-a'*c'')+c*(a'*b''-b'*a''))*s=1):
 (d*((b'*c''-c'*b'')*s)+d'*((b''*c-c''*b)*s)+d''*((b*c'-c*b')*s))*a+(d*((c'*a''-a'*c'')*s)+d'*((c''*a-a''*c)*s)+d''*((c*a'-a*c')*s))*b+(d*((a'*b''-b'*a'')*s)+d'*((a''*b-b''*a)*s)+d''*((a*b'-b*a')*s))*c=d:=by
 have:d*((a*(b'*c''-c'*b'')+b*(c'*a''-a'*c'')+c*(a'*b''-b'*a''))*s)=d:=by rw[h,Rat.mul_one]
 grind
theorem z22 {A B C:Nat->Rat} {D:Nat->List (Rat×Nat)} (h:CrH A B C D) (hd:crD A B C≠0) (i:Nat) (hi:i<3):sdM3 (D i) (crL A B C D B C) (crL A B C D C A) (crL A B C D A B) (A i) (B i) (C i)=[]:=by
 have p:=λi=>(h.ok i).pos;refine zrh (zgo (p 0) (p 1) (p 2) _ _ _) (zgo (p 0) (p 1) (p 2) _ _ _) (zgo (p 0) (p 1) (p 2) _ _ _) (p i) _ _ _ λr hr=>?_;have e:=λP Q=>zpj (p 0) (p 1) (p 2) (crX P Q 0*crI A B C) (crX P Q 1*crI A B C) (crX P Q 2*crI A B C) hr;rw[e,e,e];have hI:crD A B C*crI A B C=1:=by unfold crI;grind
 have hI':(A 0*(B 1*C 2-C 1*B 2)+B 0*(C 1*A 2-A 1*C 2)+C 0*(A 1*B 2-B 1*A 2))*crI A B C=1:=hI;show(_*((B 1*C 2-C 1*B 2)*_)+_*((B 2*C 0-C 2*B 0)*_)+_*((B 0*C 1-C 0*B 1)*_))*_+(_*((C 1*A 2-A 1*C 2)*_)+_*((C 2*A 0-A 2*C 0)*_)+_*((C 0*A 1-A 0*C 1)*_))*_+(_*((A 1*B 2-B 1*A 2)*_)+_*((A 2*B 0-B 2*A 0)*_)+_*((A 0*B 1-B 0*A 1)*_))*_=_
 match i,hi with
 |0,_=>exact zhh hI'
 |1,_=>
  have:=zhh (a:=A 1) (b:=B 1) (c:=C 1) (a':=A 2) (b':=B 2) (c':=C 2) (a'':=A 0) (b'':=B 0) (c'':=C 0) (d:=phi r (D 1)) (d':=phi r (D 2)) (d'':=phi r (D 0)) (s:=crI A B C) (by rw[<-hI'];grind);rw[<-this];grind
 |2,_=>
  have:=zhh (a:=A 2) (b:=B 2) (c:=C 2) (a':=A 0) (b':=B 0) (c':=C 0) (a'':=A 1) (b'':=B 1) (c'':=C 1) (d:=phi r (D 2)) (d':=phi r (D 0)) (d'':=phi r (D 1)) (s:=crI A B C) (by rw[<-hI'];grind);rw[<-this];grind
theorem zg1:∀{l m:List Nat},l.Nodup->(∀x∈l,x∈m)->l.length<=m.length
 |[],_,_,_=>Nat.zero_le _
 |x::l,m,h,hm=>by
  have hx:=List.nodup_cons.1 h;have h1:=hm x (List.mem_cons_self ..);have:=zg1 (l:=l) (m:=m.erase x) hx.2 λy hy=>by
   have:y≠x:=λe=>hx.1 (e▸hy);exact(List.mem_erase_of_ne this).2 (hm y (List.mem_cons_of_mem _ hy))
  have h2:=List.length_erase_of_mem h1;have h3:=List.length_pos_of_mem h1;simp only[List.length_cons];omega
def RtI (R:List Nat) (l:List (Rat×Nat)):Prop:=∀t∈l,t.2∈R
theorem zkd {R:List Nat} {T:List (Rat×Nat)} (hp:PosR T) (h:RtI R T):RtI R (mkG T)/\(mkG T).length<=R.length:=by
 have h1:RtI R (mkG T):=λc hc=>by
  obtain⟨t,ht,e⟩:=zvl _ (zx8 hc).1;rw[<-e];exact h t ht
 refine⟨h1,?_⟩;have hi:IncS (mkG T):=zxo (z1u hp);have hn:((mkG T).map Prod.snd).Nodup:=by
  unfold List.Nodup;rw[List.pairwise_map];exact hi.imp λh=>Nat.ne_of_lt h
 have:=zg1 hn (m:=R) λx hx=>by
  obtain⟨t,ht,rfl⟩:=List.mem_map.1 hx;exact h1 t ht
 rwa [List.length_map] at this
theorem zf6 {R:List Nat} {l:List (Rat×Nat)} (h:RtI R l) (c:Rat):RtI R (sclR l c):=λt ht=>by
 unfold sclR at ht;split at ht
 ·cases ht
 ·obtain⟨u,hu,rfl⟩:=List.mem_map.1 ht
  exact h u hu
theorem zkc {R:List Nat} {l m:List (Rat×Nat)} (hl:RtI R l) (hm:RtI R m):RtI R (l++m):=λt ht=>(List.mem_append.1 ht).elim (hl t) (hm t)
theorem zqd {R:List Nat} {X Y:List (Rat×Nat)} (pX:PosR X) (pY:PosR Y) (hX:RtI R X) (hY:RtI R Y) (a b:Rat):RtI R (sdM1 X Y a b)/\(sdM1 X Y a b).length<=R.length:=
 zkd (ztb (za5 pX a) (za5 pY b)) (zkc (zf6 hX a) (zf6 hY b))
theorem zqe {R:List Nat} {X Y Z:List (Rat×Nat)} (pX:PosR X) (pY:PosR Y) (pZ:PosR Z) (hX:RtI R X) (hY:RtI R Y) (hZ:RtI R Z) (a b c:Rat):RtI R (sdM2 X Y Z a b c)/\(sdM2 X Y Z a b c).length<=R.length:=
 zkd (ztb (zhg pX pY a b) (za5 pZ c)) (zkc (zqd pX pY hX hY a b).1 (zf6 hZ c))
theorem zns {A B C:Nat->Rat} {D:Nat->List (Rat×Nat)} (h:CrH A B C D) (hd:crD A B C≠0) (i:Nat) (hi:i<3) (o1:SdOk (crL A B C D B C)) (o2:SdOk (crL A B C D C A)) (o3:SdOk (crL A B C D A B)) (v u0 u1 u2:Value) (w:zA) (hw:Hw w) (hv:SdL v (D i) w) (h0:SdL u0 (crL A B C D B C) w) (h1:SdL u1 (crL A B C D C A) w) (h2:SdL u2 (crL A B C D A B) w):
 zC zF 11 #[.agg #[St (numS (A i)),St (numS (B i)),St (numS (C i)),v],.agg #[u0,u1,u2]] w λe w'=>∃r,e=.returned (.tuple #[.int .i64 0,.int .i64 r])/\Below w.heap.size w w'/\(r=0\/r=4):=by
 have p:=λi=>(h.ok i).pos;have m60:∀{q:Rat},sz q 8->sz q 60:=λh=>h.mono (by omega);obtain⟨R,hR⟩:∃R,R=(D 0++D 1++D 2).map Prod.snd:=⟨_,rfl⟩;have lR:R.length<=6:=by rw[hR,List.length_map,List.length_append,List.length_append];have:=h.len 0;have:=h.len 1;have:=h.len 2;omega
 have r0:RtI R (D 0):=λt ht=>by rw[hR];exact List.mem_map.2 ⟨t,by simp[ht],rfl⟩
 have r1:RtI R (D 1):=λt ht=>by rw[hR];exact List.mem_map.2 ⟨t,by simp[ht],rfl⟩
 have r2:RtI R (D 2):=λt ht=>by rw[hR];exact List.mem_map.2 ⟨t,by simp[ht],rfl⟩
 have cl:=λ(P Q:Nat->Rat)=>zqe (p 0) (p 1) (p 2) r0 r1 r2 (crX P Q 0*crI A B C) (crX P Q 1*crI A B C) (crX P Q 2*crI A B C);have c1:=cl B C;have c2:=cl C A;have c3:=cl A B;have z1:=zqd o1.pos o2.pos c1.1 c2.1 (A i) (B i);have z2:=zqe o1.pos o2.pos o3.pos c1.1 c2.1 c3.1 (A i) (B i) (C i);have ld:=h.len i;have s:∀{l:List (Rat×Nat)} {q:Rat},SdOk l->sz q 8->SclS l q:=λhl hq t ht=>(zca (hl.trm t ht).sc hq).mono (by omega);refine(z3g (A i) (B i) (C i) (m60 (h.a i)) (m60 (h.b i)) (m60 (h.c i)) (h.nz i) (D i) _ _ _ (h.ok i) o1 o2 o3 ⟨?_,?_,?_⟩ (s o1 (h.a i)) (s o2 (h.b i)) (s o3 (h.c i)) v u0 u1 u2 w hw hv h0 h1 h2).mono λe w' ⟨m,r,e1,hb,h3⟩=>?_
 ·have k1:=c1.2;have k2:=c2.2
  unfold crL;omega
 ·have k1:=z1.2;have k2:=c3.2
  unfold crL at k1⊢;omega
 ·have k1:=z2.2
  unfold crL at k1⊢;omega
 ·rw[z22 h hd i hi] at h3
  rcases h3 with⟨rfl,rfl⟩|⟨rfl,rfl, -⟩
  ·exact⟨4,e1,hb,.inr rfl⟩
  ·exact⟨0,e1,hb,.inl rfl⟩
end
section
open Go.RowKit Go.Shelf Lib Str Limb
attribute [local go_sem] Oper.semAt_some
theorem zhr (b n:Nat) (E:Nat->Int) (hn:n<=5000) (w:zA) (HC:Hid (∀j,j<n->w.cell? ⟨b,j,none⟩=some (.int .i64 (E j)))):
 zC zF 35 #[.slice (some ⟨b,0,none⟩) n n,.int .i64 4] w λe w'=>∃z:Int,e=.returned (.int .i64 z)/\Below w.heap.size w w'/\((z= -1/\∀j,j<n->E j≠4)\/((0<=z)/\∃j,j<n/\E j=4)):=by
 go_enter Tryz.func35,Tryz.ntmps35;go_wp2;go_loopw [8] (λi wr=>∃(k:Nat),k<=n/\i=.int .i64 (k:Int)/\Hid (qL w wr)/\Hid (∀j,j<k->E j≠4))
  (λi _=>n-(zL i).toNat)
 case atStart=>exact⟨0,Nat.zero_le _,rfl,zM _ _,λj h=>by omega⟩
 case round=>
  obtain⟨k,hk,rfl,hB,hE⟩:=hrel;by_cases hlt:k<n
  ·have c0:=(zac hB.out).cell (HC.out k hlt)
   have HEK:=hid (rfl:E k=E k);obtain⟨ek,hek⟩:∃z,z=E k:=⟨_,rfl⟩;rw[<-hek] at c0;have HK:=hid hek;clear hek HEK;by_cases h4:ek=4
   ·have HF:=hid (show E k=4 by rw[<-HK.out];exact h4)
    subst h4;go_wp2_with fail;go_ret;exact⟨_,rfl,hB.out,.inr ⟨by omega,k,hlt,HF.out⟩⟩
   ·have hb4:(ek==4)=false:=by simpa using h4
    have HF:Hid (∀j,j<k+1->E j≠4):=hid λj hj=>by
     rcases Nat.lt_or_ge j k with h|h
     ·exact hE.out j h
     ·obtain rfl:j=k:=by omega
      rw[<-HK.out];exact h4
    clear HK hE;go_wp2_with fail;go_roundw
    case rel=>exact⟨k+1,by omega,by go_num,hB,HF⟩
    case measure=>simp[zL];omega
  ·have hkn:k=n:=by omega
   subst hkn;go_wp2_with fail;go_ret;exact⟨_,rfl,hB.out,.inl ⟨rfl,hE.out⟩⟩
theorem zri (b n:Nat) (E:Nat->Int) (hn:n<=5000) (w:zA) (HC:Hid (∀j,j<n->w.cell? ⟨b,j,none⟩=some (.int .i64 (E j)))):
 zC zF 9 #[.slice (some ⟨b,0,none⟩) n n,.int .i64 4] w λe w'=>∃bb,e=.returned (.bool bb)/\Below w.heap.size w w'/\(bb=false->∀j,j<n->E j≠4):=by
 have HI:=hid (zhr b n E hn w HC);clear HC;go_enter Tryz.func9,Tryz.ntmps9;go_wp2_with fail;refine HI.out.mono ?_;rintro e w1 ⟨z,rfl,hB,hz⟩;have HB:=hid hB;clear hB;rcases hz with⟨rfl,hz⟩|⟨hz,hz2⟩
 ·have HZ:=hid hz;clear hz
  go_wp2_with fail;go_ret;exact⟨_,rfl,HB.out,λ_=>HZ.out⟩
 ·have HZ:=hid hz2;clear hz2
  have hd:decide (z<0)=false:=decide_eq_false (by omega);have hd2:decide (0<=z)=true:=decide_eq_true hz;go_wp2_with fail;go_ret;exact⟨_,rfl,HB.out,λh=>by simp[] at h⟩
theorem zhq (w:zA):
 qJ 10 #[.agg #[.slice none 0 0,.slice none 0 0,.slice none 0 0],.agg #[.slice none 0 0,.slice none 0 0,.slice none 0 0]] w (.bool true):=by
 have HS:=hid λW:zA=>z3r (.slice none 0 0) (.slice none 0 0) [] (by simp) W (SdL.nil _) (SdL.nil _);obtain⟨v1,hv⟩:∃v1,v1=(w.alloc (.cells #[.slice none 0 0,.slice none 0 0,.slice none 0 0] 30)).alloc (.cells #[.slice none 0 0,.slice none 0 0,.slice none 0 0] 30):=⟨_,rfl⟩;obtain⟨b1,A1,A2⟩:=box2 hv;have B1:=hid b1;have HA1:=hid A1;have HA2:=hid A2;have HV:=hid hv.symm;obtain⟨k0,k1,k2, -⟩:=zah A1;obtain⟨j0,j1,j2, -⟩:=zah A2;rw[hv] at k0 k1 k2 j0 j1 j2;clear hv b1 A1 A2;go_enter Tryz.func10,Tryz.ntmps10;go_wp2_with fail;have h9:=HV.out;rw[h9];clear h9 HV k0 k1 k2 j0 j1 j2;refine(HS.out v1).mono ?_;rintro e w1 ⟨rfl,hb⟩;have B2:=hid (B1.out.trans (hb.mono B1.out.size));have HB1:=hid (zac hb _ _ _ _ HA1.out);have HB2:=hid (zac hb _ _ _ _ HA2.out);clear hb HA1 HA2 B1;obtain⟨k0,k1,k2, -⟩:=zah HB1.out;obtain⟨j0,j1,j2, -⟩:=zah HB2.out;go_wp2_with fail;clear k0 k1 k2 j0 j1 j2;refine(HS.out w1).mono ?_;rintro e w2 ⟨rfl,hb⟩;have B3:=hid (B2.out.trans (hb.mono B2.out.size));have HC1:=hid (zac hb _ _ _ _ HB1.out);have HC2:=hid (zac hb _ _ _ _ HB2.out);clear hb HB1 HB2 B2;obtain⟨k0,k1,k2, -⟩:=zah HC1.out;obtain⟨j0,j1,j2, -⟩:=zah HC2.out;go_wp2_with fail;clear k0 k1 k2 j0 j1 j2;refine(HS.out w2).mono ?_;rintro e w3 ⟨rfl,hb⟩;have B4:=hid (B3.out.trans (hb.mono B3.out.size));clear hb;go_wp2_with fail;go_ret;exact⟨rfl,B4.out⟩
structure CnS (w:zA) (X Y Z:Nat->List UInt8) (P:Nat->Option Addr) (N K:Nat->Nat) (W:zA):Prop where
 bel:qL w W
 h0:W.heap[w.heap.size]? =some (.cells #[St (X 0),St (Y 0),St (Z 0),.slice (P 0) (N 0) (K 0)] 26 (0,0))
 h1:W.heap[w.heap.size+1]? =some (.cells #[St (X 1),St (Y 1),St (Z 1),.slice (P 1) (N 1) (K 1)] 26 (0,0))
 h2:W.heap[w.heap.size+1+1]? =some (.cells #[St (X 2),St (Y 2),St (Z 2),.slice (P 2) (N 2) (K 2)] 26 (0,0))
theorem CnS.next {w W W':zA} {X Y Z:Nat->List UInt8} {P:Nat->Option Addr} {N K:Nat->Nat} (h:CnS w X Y Z P N K W) (hb:qL W W'):CnS w X Y Z P N K W':=
 have hc:=zac hb
 ⟨h.bel.trans (hb.mono h.bel.size),hc _ _ _ _ h.h0,hc _ _ _ _ h.h1,hc _ _ _ _ h.h2⟩
def MkD (v0 v1 v2:Value) (d E:Prop) (L:Nat->List (Rat×Nat)) (bb:Bool) (er:Int) (W:zA):Prop:=
 (bb=false/\v0=.slice none 0 0/\v1=.slice none 0 0/\v2=.slice none 0 0/\((er=0/\¬d)\/er=4))\/(bb=true/\er=0/\d/\E/\SdL v0 (L 0) W/\SdL v1 (L 1) W/\SdL v2 (L 2) W)
theorem MkD.any {v0 v1 v2:Value} {d E:Prop} {L:Nat->List (Rat×Nat)} {bb:Bool} {er:Int} {W:zA} (h:MkD v0 v1 v2 d E L bb er W):(∃q n c,v0=.slice q n c)/\(∃q n c,v1=.slice q n c)/\∃q n c,v2=.slice q n c:=by
 rcases h with⟨_,rfl,rfl,rfl,_⟩|⟨_,_,_,_,h0,h1,h2⟩
 ·exact⟨⟨_,_,_,rfl⟩,⟨_,_,_,rfl⟩,_,_,_,rfl⟩
 ·exact⟨h0.any,h1.any,h2.any⟩
structure MkB (Q:Nat) (v0 v1 v2:Value) (d E:Prop) (L:Nat->List (Rat×Nat)) (bb:Bool) (er:Int) (W:zA):Prop where
 h:W.heap[Q]? =some (.cells #[v0,v1,v2] 30 (0,0))
 r:MkD v0 v1 v2 d E L bb er W
theorem MkB.next {Q:Nat} {v0 v1 v2:Value} {d E:Prop} {L:Nat->List (Rat×Nat)} {bb:Bool} {er:Int} {W W':zA} (h:MkB Q v0 v1 v2 d E L bb er W) (hb:qL W W'):MkB Q v0 v1 v2 d E L bb er W':=
 ⟨zac hb _ _ _ _ h.h,h.r.imp id λ⟨a,b,c,g,h0,h1,h2⟩=>⟨a,b,c,g,h0.below hb,h1.below hb,h2.below hb⟩⟩
def CnR (w:zA) (d E:Prop) (L:Nat->List (Rat×Nat)) (e:Ending) (w':zA):Prop:=
 ∃v0 v1 v2 bb er,e=.returned (.tuple #[.agg #[v0,v1,v2],.bool bb,.int .i64 er])/\Below w.heap.size w w'/\MkD v0 v1 v2 d E L bb er w'
structure CrnQ (w:zA) (X Y Z:Nat->List UInt8) (P:Nat->Option Addr) (N K:Nat->Nat) (d:Prop) (E:Nat->Prop) (L:Nat->Nat->List (Rat×Nat)):Prop where
 k0:∀W:zA,qL w W->zC zF 8 #[.agg #[St (X 0),St (Y 0),St (Z 0),.slice (P 0) (N 0) (K 0)],.agg #[St (X 1),St (Y 1),St (Z 1),.slice (P 1) (N 1) (K 1)],.agg #[St (X 2),St (Y 2),St (Z 2),.slice (P 2) (N 2) (K 2)]] W (CnR W d (E 0) (L 0))
 k1:∀W:zA,qL w W->zC zF 8 #[.agg #[St (X 2),St (Y 2),St (Z 2),.slice (P 2) (N 2) (K 2)],.agg #[St (X 0),St (Y 0),St (Z 0),.slice (P 0) (N 0) (K 0)],.agg #[St (X 1),St (Y 1),St (Z 1),.slice (P 1) (N 1) (K 1)]] W (CnR W d (E 1) (L 1))
 k2:∀W:zA,qL w W->zC zF 8 #[.agg #[St (X 1),St (Y 1),St (Z 1),.slice (P 1) (N 1) (K 1)],.agg #[St (X 0),St (Y 0),St (Z 0),.slice (P 0) (N 0) (K 0)],.agg #[St (X 2),St (Y 2),St (Z 2),.slice (P 2) (N 2) (K 2)]] W (CnR W d (E 2) (L 2))
 sd:d->∀j,j<3->E j->∀i,i<3->∀(W:zA) (u0 u1 u2:Value),qL w W->SdL u0 (L j 0) W->SdL u1 (L j 1) W->SdL u2 (L j 2) W->zC zF 11 #[.agg #[St (X i),St (Y i),St (Z i),.slice (P i) (N i) (K i)],.agg #[u0,u1,u2]] W λe w'=>∃r,e=.returned (.tuple #[.int .i64 0,.int .i64 r])/\Below W.heap.size W w'/\(r=0\/r=4)
theorem zh3 (X Y Z:Nat->List UInt8) (P:Nat->Option Addr) (N K:Nat->Nat) (G:Prop) (w:zA)
 (FN:Hid (∀(W:zA) (A:Nat),qL w W->W.heap[A]? =some (.cells #[.string ⟨(X 0).toArray⟩,.string ⟨(Y 0).toArray⟩,.string ⟨(Z 0).toArray⟩,.slice (P 0) (N 0) (K 0),.string ⟨(X 1).toArray⟩,.string ⟨(Y 1).toArray⟩,.string ⟨(Z 1).toArray⟩,.slice (P 1) (N 1) (K 1),.string ⟨(X 2).toArray⟩,.string ⟨(Y 2).toArray⟩,.string ⟨(Z 2).toArray⟩,.slice (P 2) (N 2) (K 2)] 26 (0,0))->zC zF 6 #[.slice (some ⟨A,0,none⟩) 3 3] W (YesI W G)))
 (AW:Hid (∀W:zA,qL w W->qJ 7 #[] W (.bool true)))
 (MAIN:Hid (G->∃d E L,CrnQ w X Y Z P N K d E L)):
 qJ 3 #[.agg #[St (X 0),St (Y 0),St (Z 0),.slice (P 0) (N 0) (K 0)],.agg #[St (X 1),St (Y 1),St (Z 1),.slice (P 1) (N 1) (K 1)],.agg #[St (X 2),St (Y 2),St (Z 2),.slice (P 2) (N 2) (K 2)]] w (.bool true):=by
 obtain⟨v1,hv⟩:∃v1,v1=((w.alloc (.cells #[.string ⟨(X 0).toArray⟩,.string ⟨(Y 0).toArray⟩,.string ⟨(Z 0).toArray⟩,.slice (P 0) (N 0) (K 0)] 26)).alloc (.cells #[.string ⟨(X 1).toArray⟩,.string ⟨(Y 1).toArray⟩,.string ⟨(Z 1).toArray⟩,.slice (P 1) (N 1) (K 1)] 26)).alloc (.cells #[.string ⟨(X 2).toArray⟩,.string ⟨(Y 2).toArray⟩,.string ⟨(Z 2).toArray⟩,.slice (P 2) (N 2) (K 2)] 26):=⟨_,rfl⟩;have hs:CnS w X Y Z P N K v1/\v1.heap.size=w.heap.size+1+1+1:=by
  obtain⟨x1,hx1⟩:∃x,x=w.alloc (.cells #[.string ⟨(X 0).toArray⟩,.string ⟨(Y 0).toArray⟩,.string ⟨(Z 0).toArray⟩,.slice (P 0) (N 0) (K 0)] 26):=⟨_,rfl⟩;obtain⟨b1,f1⟩:=zu4 hx1;have s1:x1.heap.size=w.heap.size+1:=by rw[hx1];simp
  rw[<-hx1] at hv;obtain⟨b2,f2,f3⟩:=box2 hv;rw[s1] at f2 f3;exact⟨⟨b1.trans (b2.mono b1.size),zac b2 _ _ _ _ f1,f2,f3⟩,by rw[hv];simp[s1]⟩
 have hsz:=hs.2;obtain⟨a0,a1,a2,a3⟩:=zfb hs.1.h0;obtain⟨c0,c1,c2,c3⟩:=zfb hs.1.h1;obtain⟨d0,d1,d2,d3⟩:=zfb hs.1.h2;obtain⟨v2,hv2⟩:∃v2,v2=v1.alloc (.cells #[.string ⟨(X 0).toArray⟩,.string ⟨(Y 0).toArray⟩,.string ⟨(Z 0).toArray⟩,.slice (P 0) (N 0) (K 0),.string ⟨(X 1).toArray⟩,.string ⟨(Y 1).toArray⟩,.string ⟨(Z 1).toArray⟩,.slice (P 1) (N 1) (K 1),.string ⟨(X 2).toArray⟩,.string ⟨(Y 2).toArray⟩,.string ⟨(Z 2).toArray⟩,.slice (P 2) (N 2) (K 2)] 26):=⟨_,rfl⟩;obtain⟨b2,A3⟩:=zu4 hv2;have HT:=hid (hs.1.next b2);have HF:=hid (FN.out v2 _ HT.out.bel A3);rw[hsz] at HF;have HV:=hid hv.symm;have HV2:=hid hv2.symm;have HSZ:=hid hsz;clear hv hv2 b2 A3 hsz hs FN;go_enter Tryz.func3,Tryz.ntmps3;go_wp2_with fail;have h9:=HV.out;rw[h9];clear h9 HV;go_wp2_with fail;have h9:=HV2.out;rw[h9]
 try rw[HSZ.out]
 clear h9 HV2 HSZ a0 a1 a2 a3 c0 c1 c2 c3 d0 d1 d2 d3;refine HF.out.mono ?_;rintro e w1 ⟨t1,rfl,ht1,hb⟩;have HT1:=hid (HT.out.next hb);have HG:=hid ht1;clear hb ht1 HF HT;cases t1
 ·have HA:=hid (AW.out w1 HT1.out.bel)
  clear AW MAIN;go_wp2_with fail;refine HA.out.mono ?_;rintro e w2 ⟨rfl,hb⟩;have HB:=hid (HT1.out.bel.trans (hb.mono HT1.out.bel.size));clear hb;go_wp2_with fail;go_ret;exact⟨rfl,HB.out⟩
 ·obtain⟨d,E,L,hQ⟩:=MAIN.out (HG.out rfl)
  have HQ:=hid hQ;clear hQ MAIN HG;obtain⟨a0,a1,a2,a3⟩:=zfb HT1.out.h0;obtain⟨c0,c1,c2,c3⟩:=zfb HT1.out.h1;obtain⟨d0,d1,d2,d3⟩:=zfb HT1.out.h2;have HC:=hid (HQ.out.k0 w1 HT1.out.bel);go_wp2_with fail;clear a0 a1 a2 a3 c0 c1 c2 c3 d0 d1 d2 d3;refine HC.out.mono ?_;rintro e x0 ⟨m0,m1,m2,bb0,er0,rfl,hb,hr⟩;obtain⟨⟨p0a,n0a,k0a,rfl⟩,⟨p0b,n0b,k0b,rfl⟩,p0c,n0c,k0c,rfl⟩:=hr.any;obtain⟨y0,hy⟩:∃y,y=x0.alloc (.cells #[.slice p0a n0a k0a,.slice p0b n0b k0b,.slice p0c n0c k0c] 30):=⟨_,rfl⟩;obtain⟨b2,hh⟩:=zu4 hy;obtain⟨Q0,hQe⟩:∃Q,Q=x0.heap.size:=⟨_,rfl⟩;rw[<-hQe] at hh;have hbb:=hb.trans (b2.mono hb.size);have HM0:Hid (MkB Q0 (.slice p0a n0a k0a) (.slice p0b n0b k0b) (.slice p0c n0c k0c) d (E 0) (L 0) bb0 er0 y0):=hid ((⟨hh,hr.imp id λ⟨a,b,c,g,h0,h1,h2⟩=>⟨a,b,c,g,h0.below b2,h1.below b2,h2.below b2⟩⟩));have HT2:=hid (HT1.out.next hbb);have HY:=hid hy.symm;have HQE:=hid hQe.symm;clear hb hr hy b2 hh hQe hbb HC HT1;obtain⟨a0,a1,a2,a3⟩:=zfb HT2.out.h0;obtain⟨c0,c1,c2,c3⟩:=zfb HT2.out.h1;obtain⟨d0,d1,d2,d3⟩:=zfb HT2.out.h2;rw[<-HY.out] at a0 a1 a2 a3 c0 c1 c2 c3 d0 d1 d2 d3;have HC:=hid (HQ.out.k1 y0 HT2.out.bel);go_wp2_with fail;have h9:=HY.out;rw[h9]
  try rw[HQE.out]
  clear h9 HY HQE a0 a1 a2 a3 c0 c1 c2 c3 d0 d1 d2 d3;refine HC.out.mono ?_;rintro e x1 ⟨m0,m1,m2,bb1,er1,rfl,hb,hr⟩;obtain⟨⟨p1a,n1a,k1a,rfl⟩,⟨p1b,n1b,k1b,rfl⟩,p1c,n1c,k1c,rfl⟩:=hr.any;obtain⟨y1,hy⟩:∃y,y=x1.alloc (.cells #[.slice p1a n1a k1a,.slice p1b n1b k1b,.slice p1c n1c k1c] 30):=⟨_,rfl⟩;obtain⟨b2,hh⟩:=zu4 hy;obtain⟨Q1,hQe⟩:∃Q,Q=x1.heap.size:=⟨_,rfl⟩;rw[<-hQe] at hh;have hbb:=hb.trans (b2.mono hb.size);have HM1:Hid (MkB Q1 (.slice p1a n1a k1a) (.slice p1b n1b k1b) (.slice p1c n1c k1c) d (E 1) (L 1) bb1 er1 y1):=hid ((⟨hh,hr.imp id λ⟨a,b,c,g,h0,h1,h2⟩=>⟨a,b,c,g,h0.below b2,h1.below b2,h2.below b2⟩⟩));have HT3:=hid (HT2.out.next hbb);replace HM0:=hid (HM0.out.next hbb);have HY:=hid hy.symm;have HQE:=hid hQe.symm;clear hb hr hy b2 hh hQe hbb HC HT2;obtain⟨a0,a1,a2,a3⟩:=zfb HT3.out.h0;obtain⟨c0,c1,c2,c3⟩:=zfb HT3.out.h1;obtain⟨d0,d1,d2,d3⟩:=zfb HT3.out.h2;rw[<-HY.out] at a0 a1 a2 a3 c0 c1 c2 c3 d0 d1 d2 d3;have HC:=hid (HQ.out.k2 y1 HT3.out.bel);go_wp2_with fail;have h9:=HY.out;rw[h9]
  try rw[HQE.out]
  clear h9 HY HQE a0 a1 a2 a3 c0 c1 c2 c3 d0 d1 d2 d3;refine HC.out.mono ?_;rintro e x2 ⟨m0,m1,m2,bb2,er2,rfl,hb,hr⟩;obtain⟨⟨p2a,n2a,k2a,rfl⟩,⟨p2b,n2b,k2b,rfl⟩,p2c,n2c,k2c,rfl⟩:=hr.any;obtain⟨y2,hy⟩:∃y,y=x2.alloc (.cells #[.slice p2a n2a k2a,.slice p2b n2b k2b,.slice p2c n2c k2c] 30):=⟨_,rfl⟩;obtain⟨b2,hh⟩:=zu4 hy;obtain⟨Q2,hQe⟩:∃Q,Q=x2.heap.size:=⟨_,rfl⟩;rw[<-hQe] at hh;have hbb:=hb.trans (b2.mono hb.size);have HM2:Hid (MkB Q2 (.slice p2a n2a k2a) (.slice p2b n2b k2b) (.slice p2c n2c k2c) d (E 2) (L 2) bb2 er2 y2):=hid ((⟨hh,hr.imp id λ⟨a,b,c,g,h0,h1,h2⟩=>⟨a,b,c,g,h0.below b2,h1.below b2,h2.below b2⟩⟩));have HT4:=hid (HT3.out.next hbb);replace HM0:=hid (HM0.out.next hbb);replace HM1:=hid (HM1.out.next hbb);have HY:=hid hy.symm;have HQE:=hid hQe.symm;clear hb hr hy b2 hh hQe hbb HC HT3;obtain⟨z,hz⟩:∃z,z=y2.alloc (.cells #[.int .i64 er0,.int .i64 er1,.int .i64 er2] 31):=⟨_,rfl⟩;obtain⟨b2,hh⟩:=zu4 hz
  have hcn:=zri y2.heap.size 3 (λi=>if i=0 then er0 else if i=1 then er1 else er2) (by omega) z (hid λj hj=>by
   rw[Go.Joins.cell_of_block hh]
   match j,hj with
   |0,_|1,_|2,_=>rfl)
  have HCN:=hid hcn;have HS:Hid (y2.heap.size=Q2+1):=hid (by rw[<-HY.out,<-HQE.out];simp);rw[HS.out] at HCN;have HT5:=hid (HT4.out.next b2);replace HM0:=hid (HM0.out.next b2);replace HM1:=hid (HM1.out.next b2);replace HM2:=hid (HM2.out.next b2);have HZ:=hid hz.symm;clear hz b2 hh hcn HT4;go_wp2_with fail;have h9:=HY.out;rw[h9]
  try rw[HQE.out]
  clear h9;have h9:=HZ.out;rw[h9]
  try rw[HS.out]
  clear h9 HY HQE HZ HS;refine HCN.out.mono ?_;rintro e w5 ⟨bc,rfl,hb,hne⟩;have HT6:=hid (HT5.out.next hb);replace HM0:=hid (HM0.out.next hb);replace HM1:=hid (HM1.out.next hb);replace HM2:=hid (HM2.out.next hb);have HNE:=hid hne;have HA:=hid (AW.out w5 HT6.out.bel);clear hb hne HCN HT5;cases bc
  rotate_left
  ·clear AW HQ HM0 HM1 HM2 HNE
   go_wp2_with fail;refine HA.out.mono ?_;rintro e w6 ⟨rfl,hb⟩;have HB:=hid (HT6.out.bel.trans (hb.mono HT6.out.bel.size));clear hb;go_wp2_with fail;go_ret;exact⟨rfl,HB.out⟩
  ·clear HA
   have n0:er0≠4:=HNE.out rfl 0 (by omega);have n1:er1≠4:=HNE.out rfl 1 (by omega);have n2:er2≠4:=HNE.out rfl 2 (by omega);clear HNE;have mx3:∀w:zA,(Builtin.max_ #[31,31,31] 31 #[.int .i64 0,.int .i64 0,.int .i64 0]).run zF w=.ok (.int .i64 0) w:=λ_=>by kernel_rfl
   by_cases hd:d
   rotate_left
   ·-- no corner
    have no:∀{v0 v1 v2:Value} {E:Prop} {L:Nat->List (Rat×Nat)} {bb:Bool} {er:Int} {W:zA},MkD v0 v1 v2 d E L bb er W->er≠4->bb=false/\er=0/\v0=.slice none 0 0/\v1=.slice none 0 0/\v2=.slice none 0 0:=λh h4=>by
     rcases h with⟨h1,h2,h3,h5,⟨h6,_⟩|h6⟩|⟨_,_,h,_⟩
     ·exact⟨h1,h6,h2,h3,h5⟩
     ·exact absurd h6 h4
     ·exact absurd h hd
    obtain⟨rfl,rfl,e1,e2,e3⟩:=no HM0.out.r n0;obtain⟨rfl,rfl, -⟩:=no HM1.out.r n1;obtain⟨rfl,rfl, -⟩:=no HM2.out.r n2;have hm:=HM0.out.h;rw[e1,e2,e3] at hm;obtain⟨k0,k1,k2, -⟩:=zah hm;have HS:=hid (zhq w5);clear n0 n1 n2 HM0 HM1 HM2 HQ no hd hm e1 e2 e3;go_wp2_with fail;clear k0 k1 k2 mx3;refine HS.out.mono ?_;rintro e w6 ⟨rfl,hb⟩;have hB:=HT6.out.bel.trans (hb.mono HT6.out.bel.size);have HB:=hid hB;have HA:=hid (AW.out w6 hB);clear hb hB AW HS;go_wp2_with fail;refine HA.out.mono ?_;rintro e w7 ⟨rfl,hb⟩;have HB2:=qT HB hb;clear hb;go_wp2_with fail;go_ret;exact⟨rfl,HB2.out⟩
   ·-- a corner
    have no:∀{v0 v1 v2:Value} {E:Prop} {L:Nat->List (Rat×Nat)} {bb:Bool} {er:Int} {W:zA},MkD v0 v1 v2 d E L bb er W->er≠4->bb=true/\er=0:=λh h4=>by
     rcases h with⟨h1,h2,h3,h5,⟨_,h6⟩|h6⟩|⟨h1,h2,_⟩
     ·exact absurd hd h6
     ·exact absurd h6 h4
     ·exact⟨h1,h2⟩
    obtain⟨rfl,rfl⟩:=no HM0.out.r n0;obtain⟨rfl,rfl⟩:=no HM1.out.r n1;obtain⟨rfl,rfl⟩:=no HM2.out.r n2;have HSD:=hid (HQ.out.sd hd);obtain⟨a0,a1,a2,a3⟩:=zfb HT6.out.h0;obtain⟨c0,c1,c2,c3⟩:=zfb HT6.out.h1;obtain⟨d0,d1,d2,d3⟩:=zfb HT6.out.h2;obtain⟨z,hz⟩:∃z,z=w5.alloc (.cells #[.string ⟨(X 0).toArray⟩,.string ⟨(Y 0).toArray⟩,.string ⟨(Z 0).toArray⟩,.slice (P 0) (N 0) (K 0),.string ⟨(X 1).toArray⟩,.string ⟨(Y 1).toArray⟩,.string ⟨(Z 1).toArray⟩,.slice (P 1) (N 1) (K 1),.string ⟨(X 2).toArray⟩,.string ⟨(Y 2).toArray⟩,.string ⟨(Z 2).toArray⟩,.slice (P 2) (N 2) (K 2)] 26):=⟨_,rfl⟩;obtain⟨b2,hh⟩:=zu4 hz;obtain⟨R,hR⟩:∃R,R=w5.heap.size:=⟨_,rfl⟩;rw[<-hR] at hh;have HT7:=hid (HT6.out.next b2);replace HM0:=hid (HM0.out.next b2);replace HM1:=hid (HM1.out.next b2);replace HM2:=hid (HM2.out.next b2);have HH:=hid hh;have HZ:=hid hz.symm;have HR:=hid hR.symm;clear n0 n1 n2 HQ no hz b2 hh hR HT6;go_wp2_with fail;have h9:=HZ.out;rw[h9]
    try rw[HR.out]
    clear h9 HZ HR a0 a1 a2 a3 c0 c1 c2 c3 d0 d1 d2 d3 mx3;have HHC:=hid λi hi=>zfr (X:=X) (Y:=Y) (Z:=Z) (D:=λi=>.slice (P i) (N i) (K i)) HH.out i hi;have Z0:=hid (zM z.heap.size z);go_loopw [89] (λi wr=>∃(k:Nat),k<=3/\i=.int .i64 (k:Int)/\Hid (qL z wr))
     (λi _=>3-(zL i).toNat)
    case atStart=>exact⟨0,by omega,rfl,Z0⟩
    case round=>
     obtain⟨k,hk,rfl,hB⟩:=hrel;by_cases hlt:k<3
     ·obtain⟨a0,a1,a2,a3⟩:=HHC.out k hlt
      have S0:=λe=>HSD.out 0 (by omega) e k hlt;have S1:=λe=>HSD.out 1 (by omega) e k hlt;have S2:=λe=>HSD.out 2 (by omega) e k hlt;have HS0:=hid S0;have HS1:=hid S1;have HS2:=hid S2;clear S0 S1 S2;have a0:=zai hB.out a0;have a1:=zai hB.out a1;have a2:=zai hB.out a2;have a3:=zai hB.out a3;generalize X k=x at*
      generalize Y k=y at*
      generalize Z k=zz at*
      generalize P k=pk at*
      generalize N k=nk at*
      generalize K k=kk at*
      obtain⟨v,hv⟩:∃v,v=wr.alloc (.cells #[.string ⟨x.toArray⟩,.string ⟨y.toArray⟩,.string ⟨zz.toArray⟩,.slice pk nk kk] 26):=⟨_,rfl⟩;obtain⟨b1,hh⟩:=zu4 hv;have hzb:=HT7.out.bel;have hBv:=hB.out.trans (b1.mono hB.out.size);have HBV:=hid hBv;have HX:=hid hh;have HW:=hid (λ(W:zA) (h:qL v W)=>(hzb.trans ((hBv.trans (h.mono hBv.size)).mono hzb.size):qL w W));have MM0:=hid (HM0.out.next hBv);have MM1:=hid (HM1.out.next hBv);have MM2:=hid (HM2.out.next hBv);have HV:=hid hv.symm;obtain⟨c0,c1,c2,c3⟩:=zfb hh;obtain⟨e0,e1,e2, -⟩:=zah MM0.out.h;rw[hv] at c0 c1 c2 c3 e0 e1 e2;obtain⟨-, -, -,he,s0,s1,s2⟩:=MM0.out.r.resolve_left λh=>by cases h.1
      have HC:=hid (HS0.out he v _ _ _ (HW.out v (zM _ _)) s0 s1 s2);clear hv b1 hh hzb hBv he s0 s1 s2;go_wp2_with fail;have h9:=HV.out;rw[h9];clear h9 HV a0 a1 a2 a3 c0 c1 c2 c3 e0 e1 e2;have B0:=hid (zM v.heap.size v);refine HC.out.mono ?_;rintro e g0 ⟨r0,rfl,hb,hr0⟩;have B1:=hid (B0.out.trans (hb.mono B0.out.size));clear hb HC;obtain⟨c0,c1,c2,c3⟩:=zfb (zac B1.out _ _ _ _ HX.out);have M1:=MM1.out.next B1.out;obtain⟨e0,e1,e2, -⟩:=zah M1.h;obtain⟨-, -, -,he,s0,s1,s2⟩:=M1.r.resolve_left λh=>by cases h.1
      have HC:=hid (HS1.out he g0 _ _ _ (HW.out g0 B1.out) s0 s1 s2);clear M1 he s0 s1 s2;go_wp2_with fail;clear c0 c1 c2 c3 e0 e1 e2;refine HC.out.mono ?_;rintro e g1 ⟨r1,rfl,hb,hr1⟩;have B2:=hid (B1.out.trans (hb.mono B1.out.size));clear hb HC;obtain⟨c0,c1,c2,c3⟩:=zfb (zac B2.out _ _ _ _ HX.out);have M2:=MM2.out.next B2.out;obtain⟨e0,e1,e2, -⟩:=zah M2.h;obtain⟨-, -, -,he,s0,s1,s2⟩:=M2.r.resolve_left λh=>by cases h.1
      have HC:=hid (HS2.out he g1 _ _ _ (HW.out g1 B2.out) s0 s1 s2);clear M2 he s0 s1 s2;go_wp2_with fail;clear c0 c1 c2 c3 e0 e1 e2;refine HC.out.mono ?_;rintro e g2 ⟨r2,rfl,hb,hr2⟩;have hB3:=B2.out.trans (hb.mono B2.out.size);have HE:Hid (qL z g2):=qT HBV hB3;clear hb hB3 HC HS0 HS1 HS2 MM0 MM1 MM2 HW;rcases hr0 with rfl|rfl<;>rcases hr1 with rfl|rfl<;>rcases hr2 with rfl|rfl
      all_goals
       go_wp2_with fail;go_roundw
       case rel=>exact⟨k+1,by omega,by go_num,HE⟩
       case measure=>simp[zL];omega
     ·have hB4:=HT7.out.bel.trans (hB.out.mono HT7.out.bel.size)
      have HB4:=hid hB4;have HA:=hid (AW.out wr hB4);clear hB4 AW;go_wp2_with fail;refine HA.out.mono ?_;rintro e g0 ⟨rfl,hb⟩;have HB5:=qT HB4 hb;clear hb;go_wp2_with fail;go_ret;exact⟨rfl,HB5.out⟩
def sel3 {α:Type} (a b c:α):Nat->α
 |0=>a
 |1=>b
 |_=>c
theorem CrH.perm {A B C:Nat->Rat} {D:Nat->List (Rat×Nat)} (h:CrH A B C D) (σ:Nat->Nat):CrH (λi=>A (σ i)) (λi=>B (σ i)) (λi=>C (σ i)) (λi=>D (σ i)):=
 ⟨λ_=>h.a _,λ_=>h.b _,λ_=>h.c _,λ_=>h.nz _,λ_=>h.ok _,λ_=>h.len _,λ_=>h.sm _⟩
theorem zj7 (x0 y0 z0 x1 y1 z1 x2 y2 z2:List UInt8) (u0 u1 u2:Value) (l0 l1 l2:List (List UInt8×List UInt8)) (w:zA) (hw:Hw w) (h0:SdT u0 l0 w) (h1:SdT u1 l1 w) (h2:SdT u2 l2 w):
 qJ 3 #[.agg #[St x0,St y0,St z0,u0],.agg #[St x1,St y1,St z1,u1],.agg #[St x2,St y2,St z2,u2]] w (.bool true):=by
 obtain⟨p0,n0,k0,rfl⟩:=h0.any;obtain⟨p1,n1,k1,rfl⟩:=h1.any;obtain⟨p2,n2,k2,rfl⟩:=h2.any;have H:=λ(W:zA) (h:qL w W)=>hw.below h;have hT:∀i,SdT (.slice (sel3 p0 p1 p2 i) (sel3 n0 n1 n2 i) (sel3 k0 k1 k2 i)) (sel3 l0 l1 l2 i) w:=λi=>match i with
  |0=>h0
  |1=>h1
  |_+2=>h2
 refine zh3 (sel3 x0 x1 x2) (sel3 y0 y1 y2) (sel3 z0 z1 z2) (sel3 p0 p1 p2) (sel3 n0 n1 n2) (sel3 k0 k1 k2) _ w
  (hid λW A hW hA=>zt3 (some ⟨A,0,none⟩) 3 3 (sel3 x0 x1 x2) (sel3 y0 y1 y2) (sel3 z0 z1 z2) (λi=>.slice (sel3 p0 p1 p2 i) (sel3 n0 n1 n2 i) (sel3 k0 k1 k2 i)) (sel3 l0 l1 l2) (by omega) W (H W hW).wd (λi hi=>?_) (λi _=>(hT i).below hW))
  (hid λW hW=>zm6 W (H W hW)) (hid λhG=>?_)
 ·have hc:=zfr (X:=sel3 x0 x1 x2) (Y:=sel3 y0 y1 y2) (Z:=sel3 z0 z1 z2) (D:=λi=>.slice (sel3 p0 p1 p2 i) (sel3 n0 n1 n2 i) (sel3 k0 k1 k2 i)) hA i hi
  rw[show i*4=0+i*4 by omega] at hc;exact⟨A,0,rfl,hc⟩
 obtain⟨a0,b0,c0,d0,f0⟩:=hG 0 (by omega);obtain⟨a1,b1,c1,d1,f1⟩:=hG 1 (by omega);obtain⟨a2,b2,c2,d2,f2⟩:=hG 2 (by omega);obtain rfl:x0=numS a0:=f0.a;obtain rfl:y0=numS b0:=f0.b;obtain rfl:z0=numS c0:=f0.c;obtain rfl:x1=numS a1:=f1.a;obtain rfl:y1=numS b1:=f1.b;obtain rfl:z1=numS c1:=f1.c;obtain rfl:x2=numS a2:=f2.a;obtain rfl:y2=numS b2:=f2.b;obtain rfl:z2=numS c2:=f2.c;obtain⟨A,hA⟩:∃A,A=sel3 a0 a1 a2:=⟨_,rfl⟩;obtain⟨B,hB⟩:∃B,B=sel3 b0 b1 b2:=⟨_,rfl⟩;obtain⟨C,hC⟩:∃C,C=sel3 c0 c1 c2:=⟨_,rfl⟩;obtain⟨D,hD⟩:∃D,D=sel3 d0 d1 d2:=⟨_,rfl⟩;obtain⟨v,hv⟩:∃v:Nat->Value,v= λi=>.slice (sel3 p0 p1 p2 i) (sel3 n0 n1 n2 i) (sel3 k0 k1 k2 i):=⟨_,rfl⟩;have h:CrH A B C D:=by
  subst hA;subst hB;subst hC;subst hD;constructor<;>(intro i;rcases i with _|_|i)
  all_goals first
   |exact f0.sa|exact f1.sa|exact f2.sa|exact f0.sb|exact f1.sb|exact f2.sb|exact f0.sc|exact f1.sc|exact f2.sc|exact f0.nz|exact f1.nz|exact f2.nz
   |exact f0.d.2.1|exact f1.d.2.1|exact f2.d.2.1|exact f0.d.2.2.1|exact f1.d.2.2.1|exact f2.d.2.2.1
   |exact λt ht=>(f0.d.2.2.2 t ht).1|exact λt ht=>(f1.d.2.2.2 t ht).1|exact λt ht=>(f2.d.2.2.2 t ht).1
 have hV:∀i,SdL (v i) (D i) w:=λi=>by
  subst hv;subst hD;rcases i with _|_|i
  ·exact h0.sd f0.d.1
  ·exact h1.sd f1.d.1
  ·exact h2.sd f2.d.1
 obtain⟨L,hL⟩:∃L:(Nat->Nat)->Nat->List (Rat×Nat),L= λσ=>sel3 (crL (λi=>A (σ i)) (λi=>B (σ i)) (λi=>C (σ i)) (λi=>D (σ i)) (λi=>B (σ i)) (λi=>C (σ i))) (crL (λi=>A (σ i)) (λi=>B (σ i)) (λi=>C (σ i)) (λi=>D (σ i)) (λi=>C (σ i)) (λi=>A (σ i))) (crL (λi=>A (σ i)) (λi=>B (σ i)) (λi=>C (σ i)) (λi=>D (σ i)) (λi=>A (σ i)) (λi=>B (σ i))):=⟨_,rfl⟩;have K:∀σ:Nat->Nat,(crD (λi=>A (σ i)) (λi=>B (σ i)) (λi=>C (σ i))≠0↔crD A B C≠0)->∀W:zA,qL w W->zC zF 8 #[.agg #[St (numS (A (σ 0))),St (numS (B (σ 0))),St (numS (C (σ 0))),v (σ 0)],.agg #[St (numS (A (σ 1))),St (numS (B (σ 1))),St (numS (C (σ 1))),v (σ 1)],.agg #[St (numS (A (σ 2))),St (numS (B (σ 2))),St (numS (C (σ 2))),v (σ 2)]] W (CnR W (crD A B C≠0) (SdOk (L σ 0)/\SdOk (L σ 1)/\SdOk (L σ 2)) (L σ)):=λσ hσ W hW=>by
  refine(zmc _ _ _ _ (h.perm σ) (λi=>v (σ i)) W (H W hW) λi=>(hV (σ i)).below hW).mono λe w' ⟨u0,u1,u2,bb,er,e1,hb,h3⟩=>⟨u0,u1,u2,bb,er,e1,hb,?_⟩;rcases h3 with⟨k1,k2,k3,k4,k5⟩|⟨k1,k2,k3,k4,k5,k6,k7,k8,k9⟩
  ·exact .inl ⟨k1,k2,k3,k4,k5.imp (λk=>⟨k.1,λk'=>hσ.2 k' k.2⟩) id⟩
  ·subst hL
   exact .inr ⟨k1,k2,hσ.1 k3,⟨k7,k8,k9⟩,k4,k5,k6⟩
 have S:∀σ:Nat->Nat,crD (λi=>A (σ i)) (λi=>B (σ i)) (λi=>C (σ i))≠0->(SdOk (L σ 0)/\SdOk (L σ 1)/\SdOk (L σ 2))->∀m,m<3->∀(W:zA) (u0 u1 u2:Value),qL w W->SdL u0 (L σ 0) W->SdL u1 (L σ 1) W->SdL u2 (L σ 2) W->zC zF 11 #[.agg #[St (numS (A (σ m))),St (numS (B (σ m))),St (numS (C (σ m))),v (σ m)],.agg #[u0,u1,u2]] W λe w'=>∃r,e=.returned (.tuple #[.int .i64 0,.int .i64 r])/\Below W.heap.size W w'/\(r=0\/r=4):=λσ hd he m hm W u0 u1 u2 hW s0 s1 s2=>by
  subst hL;exact zns (h.perm σ) hd m hm he.1 he.2.1 he.2.2 (v (σ m)) u0 u1 u2 W (H W hW) ((hV (σ m)).below hW) s0 s1 s2
 have e1:crD (λi=>A (sel3 2 0 1 i)) (λi=>B (sel3 2 0 1 i)) (λi=>C (sel3 2 0 1 i))=crD A B C:=by
  show A 2*(B 0*C 1-C 0*B 1)+B 2*(C 0*A 1-A 0*C 1)+C 2*(A 0*B 1-B 0*A 1)=A 0*(B 1*C 2-C 1*B 2)+B 0*(C 1*A 2-A 1*C 2)+C 0*(A 1*B 2-B 1*A 2);grind
 have e2:crD (λi=>A (sel3 1 0 2 i)) (λi=>B (sel3 1 0 2 i)) (λi=>C (sel3 1 0 2 i))= -crD A B C:=by
  show A 1*(B 0*C 2-C 0*B 2)+B 1*(C 0*A 2-A 0*C 2)+C 1*(A 0*B 2-B 0*A 2)= -(A 0*(B 1*C 2-C 1*B 2)+B 0*(C 1*A 2-A 1*C 2)+C 0*(A 1*B 2-B 1*A 2));grind
 have i0:crD (λi=>A (sel3 0 1 2 i)) (λi=>B (sel3 0 1 2 i)) (λi=>C (sel3 0 1 2 i))≠0↔crD A B C≠0:=Iff.rfl;have i1:crD (λi=>A (sel3 2 0 1 i)) (λi=>B (sel3 2 0 1 i)) (λi=>C (sel3 2 0 1 i))≠0↔crD A B C≠0:=by rw[e1]
 have i2:crD (λi=>A (sel3 1 0 2 i)) (λi=>B (sel3 1 0 2 i)) (λi=>C (sel3 1 0 2 i))≠0↔crD A B C≠0:=by rw[e2];grind
 have K0:=K _ i0;have K1:=K _ i1;have K2:=K _ i2;have S0:=λhd=>S _ (i0.2 hd);have S1:=λhd=>S _ (i1.2 hd);have S2:=λhd=>S _ (i2.2 hd);clear K S e1 e2 i0 i1 i2 h hV;refine⟨crD A B C≠0,λj=>SdOk (L (sel3 (sel3 0 1 2) (sel3 2 0 1) (sel3 1 0 2) j) 0)/\SdOk (L (sel3 (sel3 0 1 2) (sel3 2 0 1) (sel3 1 0 2) j) 1)/\SdOk (L (sel3 (sel3 0 1 2) (sel3 2 0 1) (sel3 1 0 2) j) 2),λj=>L (sel3 (sel3 0 1 2) (sel3 2 0 1) (sel3 1 0 2) j),?_⟩;subst hA;subst hB;subst hC;subst hv;refine⟨K0,K1,K2,λhd j hj he i hi=>?_⟩
 match j,hj,i,hi with
 |0,_,0,_=>exact S0 hd he 0 (by omega)
 |0,_,1,_=>exact S0 hd he 1 (by omega)
 |0,_,2,_=>exact S0 hd he 2 (by omega)
 |1,_,0,_=>exact S1 hd he 1 (by omega)
 |1,_,1,_=>exact S1 hd he 2 (by omega)
 |1,_,2,_=>exact S1 hd he 0 (by omega)
 |2,_,0,_=>exact S2 hd he 1 (by omega)
 |2,_,1,_=>exact S2 hd he 0 (by omega)
 |2,_,2,_=>exact S2 hd he 2 (by omega)
end
section
open Go.RowKit Go.Shelf Lib Str Limb
open Go.ChangeShapes Go.WideShapes Go.ChangeAt
theorem zd1 (os:Os) (started:os.Started) (H:Type) (enc:TypeId×Value->H):
 ReturnsInHanded {} Tryz.checked os 3 .any (λw args=>(Rows.halfspaceCornersSpec.pre enc zF Tryz.f3 [] false w args/\laidMetH zF Rows.halfspaceCornersRow.laid w)/\sizedMet enc zF Tryz.f3 (OpenSpec.ofChange Rows.halfspaceCornersSpec) false w args)
  (Rows.halfspaceCornersSpec.post enc zF Tryz.f3 false true false false):=by
 refine zf9 (C:=Tryz.checked) (X:=λw _=>laidMetH zF Rows.halfspaceCornersRow.laid w) (λ_ _ _ hh h=>h.of_heap hh) zrj started (by kernel_rfl) Tryz.func3
  (ChangeSpec.witness_shaped (enc:=enc) (C:=Tryz.checked) (os:=os) (X:=λw _=>laidMetH zF Rows.halfspaceCornersRow.laid w) false (World.laidAll zF os Rows.halfspaceCornersRow.laid)
    #[.agg #[.string ⟨#[]⟩,.string ⟨#[]⟩,.string ⟨#[]⟩,.slice none 0 0],.agg #[.string ⟨#[]⟩,.string ⟨#[]⟩,.string ⟨#[]⟩,.slice none 0 0],.agg #[.string ⟨#[]⟩,.string ⟨#[]⟩,.string ⟨#[]⟩,.slice none 0 0]] 8 (World.laidAll_os _ _ _)
    (World.shaped_of_ZipB (by kernel_rfl) (by kernel_rfl)) (by kernel_rfl) (by kernel_rfl) (by kernel_rfl)
    (by rw[MakeChecks.laidMetH_plain _ _ _ (by kernel_rfl)];exact laidMet_laidAll _ (by kernel_rfl) (by kernel_rfl))) ?_
 intro W args ds gs before base hval0 hW hL hsh;have hval:∀(j:Nat) t v,Tryz.f3.params[j]? =some t->args[j]? =some v->Value.okWide zF W .any base t v:=hval0;have hW':=hW;obtain⟨p,q,hA0,hV,rfl,_,_⟩:=hW;have hA:DataW.TrodAll enc zF W 0 (λ_=>true) true Tryz.f3.params.toList args.toList ds p:=hA0;rw[Tryz.params3] at hA hval;obtain⟨v0,vs0,d0,ds0,p0,q0,e0,rfl,rfl,h0,hA⟩:=trodAll_cons hA;obtain⟨v1,vs1,d1,ds1,p1,q1,e1,rfl,rfl,h1,hA⟩:=trodAll_cons hA;obtain⟨v2,vs2,d2,ds2,p2,q2,rfl,rfl,rfl,h2,hA⟩:=trodAll_cons hA;obtain⟨rfl,rfl,rfl⟩:=trodAll_nil hA;obtain rfl:args= #[v0,v1,v2]:=by cases args;simp_all
 obtain⟨rfl,rfl⟩:=trodVars_none hV;simp only[List.append_nil] at hW';have hlt:∀x∈p0++(p1++p2),x.block<W.heap.size:=λx hx=>by simpa using hW'.lt x (by simpa using hx)
 have k0:=h0;have k1:=h1;have k2:=h2;obtain⟨x0,y0,z0,u0,l0,rfl,hu0⟩:=z30 (hval 0 26 v0 rfl rfl) h0;obtain⟨x1,y1,z1,u1,l1,rfl,hu1⟩:=z30 (hval 1 26 v1 rfl rfl) h1;obtain⟨x2,y2,z2,u2,l2,rfl,hu2⟩:=z30 (hval 2 26 v2 rfl rfl) h2;have hM:laidMet zF Rows.halfspaceCornersRow.laid W:=by rw[<-MakeChecks.laidMetH_plain _ _ _ (by kernel_rfl)];exact hL
 have hwd:Wd W:=z0v hM (.tail _ (.tail _ (.head _))) hsh;have hpw:Pw W:=z0w hM (.tail _ (.tail _ (.tail _ (.tail _ (.tail _ (.tail _ (.head _)))))));have hsw:Spw W:=z80 hM (.tail _ (.tail _ (.tail _ (.tail _ (.tail _ (.tail _ (.tail _ (.head _))))))));refine(zj7 x0 y0 z0 x1 y1 z1 x2 y2 z2 u0 u1 u2 l0 l1 l2 W ⟨hwd,hpw,hsw⟩ hu0 hu1 hu2).mono λe W' ⟨he,hb⟩=>?_;subst he;have t0:=Below.trod zgh (by kernel_rfl) (of_decide_eq_true (by kernel_rfl)) k0 hb (λx hx=>hlt x (by simp[hx]));have t1:=Below.trod zgh (by kernel_rfl) (of_decide_eq_true (by kernel_rfl)) k1 hb (λx hx=>hlt x (by simp[hx]));have t2:=Below.trod zgh (by kernel_rfl) (of_decide_eq_true (by kernel_rfl)) k2 hb (λx hx=>hlt x (by simp[hx]));exact⟨_,rfl,_,_,_,[],_,[],hW',trodAll_mk1 (shut_bool Tryz.underlying4 _),trodAll_cons_mk t0 (trodAll_mk2 t1 t2),rfl,hb.frame _,λh=>by cases h⟩
theorem zrk:mapsRowed zF=true:=by kernel_rfl
theorem z43:namedTie zF Rows.halfspaceCornersRow.named Rows.halfspaceCornersSpec.vars=true:=by kernel_rfl
theorem znt:(Rows.halfspaceCornersRow.inPlace==Tryz.prog.inPlace 3)=true:=by kernel_rfl
theorem z5d:(Rows.halfspaceCornersRow.unfollowed==Tryz.prog.unfollowed 3)=true:=by kernel_rfl
theorem z5r:(Rows.halfspaceCornersRow.recurses==Tryz.prog.recurses 3)=true:=by kernel_rfl
theorem znw:(Rows.halfspaceCornersRow.named==Tryz.prog.varsNamed 3)=true:=by kernel_rfl
theorem zo9:Tryz.prog.stopsHeard=true:=by kernel_rfl
theorem zpc:Tryz.prog.mayEnter=true:=by kernel_rfl
theorem zly:(Rows.halfspaceCornersRow.lifted==Tryz.prog.liftsFinal)=true:=by kernel_rfl
theorem zrq:(Tryz.prog.make==some Rows.halfspaceCornersRow.make)=true:=by kernel_rfl
theorem zxe:(Rows.halfspaceCornersRow.plainKeys==Tryz.prog.plainKeys)=true:=by kernel_rfl
theorem zyk:Tryz.pinned.checked.prog.funcNamed Rows.halfspaceCornersRow.func=some 3:=by kernel_rfl
theorem z6x:joinedFacts zF 3 Tryz.f3 Rows.halfspaceCornersSpec Rows.halfspaceCornersRow=true:=by
 unfold joinedFacts;simp only[Bool.and_eq_true]
 repeat' apply And.intro
 all_goals first|with_reducible exact zgh|with_reducible exact zrk|with_reducible exact z43|with_reducible exact znt|with_reducible exact z5d|with_reducible exact z5r|with_reducible exact znw|with_reducible exact zo9|with_reducible exact zpc|with_reducible exact zly|with_reducible exact zrq|with_reducible exact zxe|kernel_rfl
theorem zee:Rows.HalfspaceCornersSaid:=
 OpenClaim.holds_of_wide 3 Tryz.f3 rfl rfl rfl rfl rfl rfl rfl ⟨rfl,rfl,rfl,rfl,rfl⟩ rfl rfl rfl rfl rfl zyk Tryz.func3 z6x
  (of_decide_eq_true (by kernel_rfl)) (by unfold Func.isWrapper;first|(rw[if_pos (by decide+kernel)];kernel_rfl)|(rw[if_neg (by decide+kernel)];exact⟨rfl,rfl⟩))
  (λos started H enc _=>zd1 os started H enc)
end
end Go.Proofs.YtheinkfbiedidaaGreatDoor
