/- What a list of terms comes to in each class of roots: plain law. -/
import Derived.Test.YtheinkfbiedidaaGreatDoorQ13
set_option maxRecDepth 100000
set_option maxHeartbeats 8000000
open List renaming mem_cons_self → yD
namespace Go.Proofs.YtheinkfbiedidaaGreatDoor
open Go.RowKit Go.Shelf Lib Str Limb
theorem zb0 (x:Rat):(x.num:Rat)=x*(x.den:Rat):=by
 have h:=Rat.num_divInt_den x;rw[Rat.divInt_eq_div] at h;have h0:((x.den:Int):Rat)≠0:=by
  have:=x.den_nz;exact_mod_cast this
 have h1:(x.num:Rat)=x*((x.den:Int):Rat):=by
  conv=>rhs;rw[<-h]
  grind
 exact_mod_cast h1
theorem zlx (q:Rat):0<=rt q:=by
 unfold rt;have h1:(0:Rat)<=((isq q.num.natAbs:Nat):Rat):=by exact_mod_cast Nat.zero_le _
 rcases Nat.eq_zero_or_pos (isq q.den) with h|h
 ·rw[h,show(((0:Nat)):Rat)=0 from rfl,Rat.div_def,Rat.inv_zero,Rat.mul_zero];exact Rat.le_refl
 ·rw[Rat.div_def]
  exact Rat.mul_nonneg h1 (Rat.le_of_lt (Rat.inv_pos.2 (by exact_mod_cast h)))
theorem zr7 {x y:Rat} (hx:0<=x) (h:x<y):x*x<y*y:=by
 have h1:=Rat.mul_lt_mul_of_pos_left h (show 0<y by grind);have h2:=Rat.mul_le_mul_of_nonneg_right (Rat.le_of_lt h) hx;grind
theorem zo7 {x y:Rat} (hx:0<=x) (hy:0<=y) (h:x*x=y*y):x=y:=by
 have h3:x<y\/x=y\/y<x:=by grind
 rcases h3 with k|k|k
 ·have:=zr7 hx k;grind
 ·exact k
 ·have:=zr7 hy k;grind
theorem ztk {p:Rat} (hp:0<p):rt (p/p)=1:=
 zo7 (zlx _) (by decide) (by rw[zxd (div_pos hp hp) (zx1 hp)];grind)
theorem zsa {p q r:Rat} (hp:0<p) (hq:0<q) (hr:0<r) (h:z5c p q=true) (k:z5c q r=true):rt (p/q)*rt (q/r)=rt (p/r):=by
 refine zo7 (Rat.mul_nonneg (zlx _) (zlx _)) (zlx _) ?_;have h1:=zxd (div_pos hp hq) h;have h2:=zxd (div_pos hq hr) k;rw[zxd (div_pos hp hr) (zw8 hp hq hr h k)];generalize rt (p/q)=x at h1⊢;generalize rt (q/r)=y at h2⊢;grind
def ph1 (r:Nat) (t:Rat×Nat):Rat:=if z5c (t.2:Rat) (r:Rat)=true then t.1*rt ((t.2:Rat)/(r:Rat)) else 0
def phi (r:Nat):List (Rat×Nat)->Rat
 |[]=>0
 |t::l=>ph1 r t+phi r l
theorem zo8 (r:Nat):∀l m:List (Rat×Nat),phi r (l++m)=phi r l+phi r m
 |[],m=>by rw[List.nil_append,show phi r []=0 from rfl,Rat.zero_add]
 |t::l,m=>by rw[List.cons_append,show phi r (t::(l++m))=ph1 r t+phi r (l++m) from rfl,zo8 r l m,show phi r (t::l)=ph1 r t+phi r l from rfl,Rat.add_assoc]
theorem ztl (r:Nat) (t:Rat×Nat) (c:Rat):ph1 r (t.1*c,t.2)=ph1 r t*c:=by
 unfold ph1;dsimp only;split
 ·grind
 ·rw[Rat.zero_mul]
theorem zpm (r:Nat) (c:Rat):∀l:List (Rat×Nat),phi r (sclL l c)=phi r l*c
 |[]=>by rw[show phi r []=0 from rfl,Rat.zero_mul];rfl
 |t::l=>by
  rw[show phi r (sclL (t::l) c)=ph1 r (t.1*c,t.2)+phi r (sclL l c) from rfl,zpm r c l,ztl,show phi r (t::l)=ph1 r t+phi r l from rfl,Rat.add_mul]
theorem zfq (r:Nat) (c:Rat) (l:List (Rat×Nat)):phi r (sclR l c)=phi r l*c:=by
 unfold sclR;split
 ·rename_i h;rw[h,Rat.mul_zero];rfl
 ·exact zpm r c l
theorem zt5 {r:Nat} (hr:0<r) {c t:Rat×Nat} (hc:(0:Rat)<(c.2:Rat)) (ht:(0:Rat)<(t.2:Rat)) (h:z5c (t.2:Rat) (c.2:Rat)=true):ph1 r (plG c t)=ph1 r c+ph1 r t:=by
 have hr':(0:Rat)<(r:Rat):=by exact_mod_cast hr
 have h':=zu5 ht hc h;unfold plG;split
 ·unfold ph1
  dsimp only;by_cases k:z5c (t.2:Rat) (r:Rat)=true
  ·rw[if_pos k,if_pos k,if_pos (zw8 hc ht hr' h' k),<-zsa hc ht hr' h' k]
   grind
  ·rw[if_neg k,if_neg k,if_neg (λe=>k (zw8 ht hc hr' h e)),Rat.add_zero]
 ·unfold ph1
  dsimp only;by_cases k:z5c (c.2:Rat) (r:Rat)=true
  ·rw[if_pos k,if_pos k,if_pos (zw8 ht hc hr' h k),<-zsa ht hc hr' h k]
   grind
  ·rw[if_neg k,if_neg k,if_neg (λe=>k (zw8 hc ht hr' h' e)),Rat.add_zero]
theorem zsg {r:Nat} (hr:0<r) {t:Rat×Nat} (ht:(0:Rat)<(t.2:Rat)):∀{l:List (Rat×Nat)},PosR l->phi r (gaG l t)=phi r l+ph1 r t
 |[],_=>by show ph1 r t+0=0+ph1 r t;rw[Rat.add_zero,Rat.zero_add]
 |c::l,h=>by
  have hc:=h c (yD ..);unfold gaG;split
  ·rename_i k
   show ph1 r (plG c t)+phi r l=ph1 r c+phi r l+ph1 r t;rw[zt5 hr hc ht k];grind
  ·show ph1 r c+phi r (gaG l t)=ph1 r c+phi r l+ph1 r t
   rw[zsg hr ht λd hd=>h d (List.mem_cons_of_mem _ hd)];grind
theorem zs8 {r:Nat} (hr:0<r):∀{T A:List (Rat×Nat)},PosR A->PosR T->phi r (T.foldl gaG A)=phi r A+phi r T
 |[],A,_,_=>by rw[List.foldl_nil,show phi r []=0 from rfl,Rat.add_zero]
 |t::T,A,hA,hT=>by
  have ht:=hT t (yD ..);have hA':PosR (gaG A t):=λc hc=>by
   rcases z44 hc with⟨d,hd,e⟩|e
   ·rw[<-e];exact hA d hd
   ·rw[<-e];exact ht
  rw[List.foldl_cons,zs8 hr hA' λc hc=>hT c (List.mem_cons_of_mem _ hc),zsg hr ht hA];show _=phi r A+(ph1 r t+phi r T);grind
theorem ze2 (r:Nat):∀l:List (Rat×Nat),phi r (l.filter λc=>!decide (c.1=0))=phi r l
 |[]=>rfl
 |t::l=>by
  rw[List.filter_cons];by_cases h:t.1=0
  ·rw[if_neg (by simp[h]),ze2 r l]
   show _=ph1 r t+phi r l;have:ph1 r t=0:=by unfold ph1;rw[h,Rat.zero_mul,ite_self]
   rw[this,Rat.zero_add]
  ·rw[if_pos (by simp[h])]
   show ph1 r t+phi r _=ph1 r t+phi r l;rw[ze2 r l]
theorem zpq (r:Nat) (t:Rat×Nat):∀l:List (Rat×Nat),phi r (insS t l)=ph1 r t+phi r l
 |[]=>rfl
 |c::l=>by
  unfold insS;split
  ·rfl
  ·show ph1 r c+phi r (insS t l)=ph1 r t+(ph1 r c+phi r l)
   rw[zpq r t l];grind
theorem zqg (r:Nat):∀l:List (Rat×Nat),phi r (srtS l)=phi r l
 |[]=>rfl
 |t::l=>by rw[show srtS (t::l)=insS t (srtS l) from rfl,zpq,zqg r l];rfl
theorem zuc {r:Nat} (hr:0<r) {T:List (Rat×Nat)} (hT:PosR T):phi r (mkG T)=phi r T:=by
 unfold mkG keG;rw[zqg,ze2,zs8 hr (λ_ h=>by cases h) hT,show phi r []=0 from rfl,Rat.zero_add]
theorem znu (r:Nat):∀{l:List (Rat×Nat)},(∀t∈l,z5c (t.2:Rat) (r:Rat)=false)->phi r l=0
 |[],_=>rfl
 |t::l,h=>by
  show ph1 r t+phi r l=0;rw[znu r λc hc=>h c (List.mem_cons_of_mem _ hc)];unfold ph1;rw[h t (yD ..),if_neg (by decide),Rat.add_zero]
theorem zqk:∀{l:List (Rat×Nat)},ULs l->PosR l->∀c∈l,phi c.2 l=c.1
 |[],_,_,c,h=>by cases h
 |t::l,hu,hp,c,h=>by
  show ph1 c.2 t+phi c.2 l=c.1;have hu':ULs l:=λi k a b hik ha hb=>hu (i+1) (k+1) a b (by omega) (by simpa using ha) (by simpa using hb);have hp':PosR l:=λa ha=>hp a (List.mem_cons_of_mem _ ha);have at_:∀{a:Rat×Nat},a∈l->∃i,l[i]? =some a:=λha=>List.mem_iff_getElem?.1 ha;rcases List.mem_cons.1 h with rfl|hc
  ·rw[znu c.2 λa ha=>by
    obtain⟨i,hi⟩:=at_ ha;exact hu 0 (i+1) c a (by omega) rfl (by simpa using hi)]
   have:=hp c (yD ..);unfold ph1;rw[zx1 this,if_pos rfl,ztk this];grind
  ·rw[zqk hu' hp' c hc]
   obtain⟨i,hi⟩:=at_ hc;have:=hu (i+1) 0 c t (by omega) (by simpa using hi) rfl;unfold ph1;rw[this];simp;exact Rat.zero_add _
theorem zn6 {T:List (Rat×Nat)} (hT:PosR T):PosR (mkG T):=λc hc=>(zw2 hT T.length).2 c (zx8 hc).1
theorem ztn {T:List (Rat×Nat)} (hT:PosR T):ULs (mkG T):=λi k t u hik ht hu=>by
 have hi:IncS (mkG T):=zxo (z1u hT);refine z5s (zw2 hT T.length).1 t (zx8 (List.mem_of_getElem? ht)).1 u (zx8 (List.mem_of_getElem? hu)).1 λe=>?_;subst e;rcases Nat.lt_or_ge i k with h|h
 ·have:=zz3 hi h ht hu;omega
 ·have:=zz3 hi (by omega:k<i) hu ht;omega
theorem zt0 {T:List (Rat×Nat)} (hT:PosR T) (h:∀r,0<r->phi r T=0):mkG T=[]:=by
 rcases hm:mkG T with _|⟨c,l⟩
 ·rfl
 ·have hc:c∈mkG T:=by rw[hm];exact yD ..
  have hp:=zn6 hT c hc;have hr:0<c.2:=by exact_mod_cast hp
  have:=zqk (ztn hT) (zn6 hT) c hc;rw[zuc hr hT,h _ hr] at this;exact absurd this.symm (zx8 hc).2
theorem ztb {l m:List (Rat×Nat)} (hl:PosR l) (hm:PosR m):PosR (l++m):=λt ht=>(List.mem_append.1 ht).elim (hl t) (hm t)
theorem zth {l:List (Rat×Nat)} (h:PosR l) (c:Rat):PosR (sclL l c):=λt ht=>by
 obtain⟨u,hu,rfl⟩:=List.mem_map.1 ht;exact h u hu
end Go.Proofs.YtheinkfbiedidaaGreatDoor
