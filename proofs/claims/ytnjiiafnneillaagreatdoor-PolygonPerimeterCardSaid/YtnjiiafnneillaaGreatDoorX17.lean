/- polygon.Perimeter, where a limit may be met; law10's example by it. -/
import Derived.Test.YtnjiiafnneillaaGreatDoorX16
import Derived.LaidByTextLater
set_option maxRecDepth 100000
set_option maxHeartbeats 8000000
open Go renaming World → zA
open Go.Proofs.Tryz renaming prog → zF
open Go.Joins renaming cell_of_block → zJ
open List renaming getElem?_eq_getElem → yB
namespace Go.Proofs.YtnjiiafnneillaaGreatDoor
section
open Go.RowKit Go.Shelf Lib Str Limb Geo
attribute [local go_sem] Oper.semAt_some
theorem zp0 {n d:Int} (hd:d≠0):(Rat.divInt n d).num.natAbs<=n.natAbs/\(Rat.divInt n d).den<=d.natAbs:=by
 rw[zes _ _ hd];have hk:d.natAbs≠0:=by omega
 constructor
 ·rw[Rat.num_mkRat,if_neg hk]
  have:(if d<0 then-n else n).natAbs=n.natAbs:=by split<;>omega
  rw[Int.natAbs_ediv_of_dvd (Int.ofNat_dvd_left.2 (Nat.gcd_dvd_right _ _)),this];exact Nat.div_le_self _ _
 ·rw[Rat.den_mkRat,if_neg hk]
  exact Nat.div_le_self _ _
def szD (q:Rat) (i j:Nat):Prop:=q.num.natAbs<10^i/\q.den<10^j
theorem zvy {a b:Rat} {i j k m:Nat} (ha:szD a i j) (hb:szD b k m) (u:Nat) (h1:i+m=u) (h2:k+j=u):szD (a+b) (u+1) (j+m):=by
 have c1:=zcc ha.1 hb.2;have c2:=zcc hb.1 ha.2;have c3:=zcc ha.2 hb.2;rw[h1] at c1;rw[h2] at c2;have:=a.den_nz;have:=b.den_nz;obtain⟨d1,d2⟩:=zp0 (n:=a.num*b.den+b.num*a.den) (d:=((a.den*b.den:Nat):Int)) (by simp;omega);rw[zf0];refine⟨Nat.lt_of_le_of_lt d1 ?_,Nat.lt_of_le_of_lt d2 (by rw[Int.natAbs_natCast];exact c3)⟩;refine Nat.lt_of_le_of_lt (Int.natAbs_add_le _ _) ?_;rw[ze0,ze0];exact zuz c1 c2
theorem zwv {a b:Rat} {i j k m:Nat} (ha:szD a i j) (hb:szD b k m):szD (a*b) (i+k) (j+m):=by
 have:=a.den_nz;have:=b.den_nz;obtain⟨d1,d2⟩:=zp0 (n:=a.num*b.num) (d:=((a.den*b.den:Nat):Int)) (by simp;omega);rw[zf1];exact⟨Nat.lt_of_le_of_lt d1 (by rw[Int.natAbs_mul];exact zcc ha.1 hb.1),Nat.lt_of_le_of_lt d2 (by rw[Int.natAbs_natCast];exact zcc ha.2 hb.2)⟩
theorem zrz {a b c d:Rat} (ha:szD a 12 10) (hb:szD b 12 10) (hc:szD c 12 10) (hd:szD d 12 10):sz ((a-b)*(a-b)+(c-d)*(c-d)) 87:=by
 have sub:∀{a b:Rat},szD a 12 10->szD b 12 10->szD (a-b) 23 20:=λ{a b} ha hb=>by
  rw[Rat.sub_eq_add_neg];exact zvy (k:=12) (m:=10) ha ⟨by simpa using hb.1,by simpa using hb.2⟩ 22 rfl rfl
 have s1:=sub ha hb;have s2:=sub hc hd;have:=zvy (zwv s1 s1) (zwv s2 s2) 86 rfl rfl;exact⟨this.1,Nat.lt_of_lt_of_le this.2 (Nat.pow_le_pow_right (by omega) (by omega))⟩
theorem yf7 {q:Option Addr} {m c B:Nat} {L:List (Rat×Nat)} {W W':zA} (h:SdL (.slice q m c) L W) (hq:∀a,q=some a->B<=a.block) (hne:L≠[]) (hk:∀b o x,B<=b->W.cell? ⟨b,o,none⟩=some x->W'.cell? ⟨b,o,none⟩=some x):SdL (.slice q m c) L W':=by
 rcases h with⟨_,e⟩|⟨b,off,cap,e,hc,hl,hx⟩
 ·exact absurd e hne
 ·have hB:B<=b:=by
   injection e with e1 _ _;exact hq _ e1
  refine .inr ⟨b,off,cap,e,hc,?_,λi t ht=>⟨hk _ _ _ hB (hx i t ht).1,hk _ _ _ hB (hx i t ht).2⟩⟩
  have h0:L[0]? =some (L.head hne):=by cases L with
   |nil=>exact absurd rfl hne
   |cons _ _=>rfl
  exact zbe (hk _ _ _ hB (hx 0 _ h0).1)
theorem zr0 {l:List Pt} (h:zc9 l):∀j,j<l.length->0<sqS l j:=λj hj=>by
 have hne:=h j hj;have h1:=zmg ((cor l (j+1)).x-(cor l j).x);have h2:=zmg ((cor l (j+1)).y-(cor l j).y);rcases(show 0<sqS l j\/sqS l j=0 by unfold sqS;grind) with g|g
 ·exact g
 ·unfold sqS at g
  have e1:((cor l (j+1)).x-(cor l j).x)*((cor l (j+1)).x-(cor l j).x)=0:=by grind
  have e2:((cor l (j+1)).y-(cor l j).y)*((cor l (j+1)).y-(cor l j).y)=0:=by grind
  have f1:=Rat.mul_eq_zero.1 e1;have f2:=Rat.mul_eq_zero.1 e2;refine absurd ?_ hne;generalize cor l (j+1)=u at*
  generalize cor l j=v at*
  cases u;cases v;simp only[or_self] at f1 f2;congr 1<;>grind
theorem zwx {q:List Pt} (hz:∀p∈q,szC p) (h0:0<q.length) (k:Nat):szC (cor q k):=by
 rw[<-zj4,yhj (Nat.mod_lt _ h0)];exact hz _ (List.getElem_mem _)
theorem ygj (p:Option Addr) (cap:Nat) (l:List Pt) (h3:3<=l.length) (h4:l.length<=4) (hz:∀p∈l,szC p) (hs:zc9 l) (hm:zc8 l) (w:zA) (HW:Hid (∀W,qL w W->Wd W/\Pw W)) (hr:RowPts p l w):
 Calls zF 7 #[.slice p l.length cap] w λe w'=>∃q m c k,e=.returned (.tuple #[.slice q m c,.int .i64 k])/\Below w.heap.size w w'/\
  ((k=0/\SdL (.slice q m c) (mkG ((sidT l l.length).map nrT)) w'/\ShG (mkG ((sidT l l.length).map nrT))/\∀a,q=some a->w.heap.size+2<=a.block/\a.off=0)\/((k=4/\¬zhg ((sidT l l.length).map nrT))/\q=none/\m=0/\c=0)):=by
 have C:=zwx hz (by omega);have sp:=zr0 hs;have hU:MkS (sidT l l.length):=by
  refine⟨by simp[sidT];omega,λu hu=>?_,λu hu=>?_,λu hu=>?_,λu hu=>?_⟩<;>(obtain⟨j,hj,rfl⟩:=List.mem_map.1 hu;have hj':=List.mem_range.1 hj)
  ·show(1:Rat)≠0;decide+kernel
  ·exact sp j hj'
  ·exact sz_1.mono (by omega)
  ·have c1:=C j;have c2:=C (j+1)
   exact(zrz ⟨c2.1.1.1,c2.2.1⟩ ⟨c1.1.1.1,c1.2.1⟩ ⟨c2.1.2.1,c2.2.2⟩ ⟨c1.1.2.1,c1.2.2⟩).mono (by omega)
 have hne:=yel sp (by omega);obtain⟨L,hL⟩:=zzX (mkG ((sidT l l.length).map nrT));obtain⟨N,hN⟩:=zzX ( ¬zhg ((sidT l l.length).map nrT));rw[<-hL] at hne⊢;rw[<-hN];have hdx:∀k,sz ((cor l (k+1)).x-(cor l k).x) 25:=λk=>zfq (C _).1.1 (C _).1.1;have hdy:∀k,sz ((cor l (k+1)).y-(cor l k).y) 25:=λk=>zfq (C _).1.2 (C _).1.2
 refine(yfc p cap l h3 (by omega) (λq m c k W=>(k=0/\SdL (.slice q m c) L W/\ShG L/\∀a,q=some a->w.heap.size+2<=a.block/\a.off=0)\/((k=4/\N)/\q=none/\m=0/\c=0)) w HW (hid hr)
  (hid ⟨λq m c k W W' h hk=>h.imp (λ⟨a,b,c,d⟩=>⟨a,yf7 b (λx e=>(d x e).1) hne hk,c,d⟩) id⟩)
  (hid λW hW hr=>zlc p cap l h3 (by omega) (λi=>⟨(C i).1.1.mono (by omega),(C i).1.2.mono (by omega)⟩) hs hm W hW hr)
  (hid λk _ W hW=>zgk _ _ 12 12 (by omega) (by omega) (by omega) (C _).1.1 (C _).1.1 W hW)
  (hid λk _ W hW=>zgk _ _ 12 12 (by omega) (by omega) (by omega) (C _).1.2 (C _).1.2 W hW)
  (hid λk _ W hW=>zh3 _ _ 25 25 (by omega) (by omega) (by omega) (hdx k) (hdx k) W hW)
  (hid λk _ W hW=>zh3 _ _ 25 25 (by omega) (by omega) (by omega) (hdy k) (hdy k) W hW)
  (hid λk _ W hW=>zje _ _ 50 50 (by omega) (by omega) (by omega) (zca (hdx k) (hdx k)) (zca (hdy k) (hdy k)) W hW)
  (hid λg gc W hW h2 hg hc=>?_))
 have lU:(sidT l l.length).length=l.length:=by simp[sidT]
 have M:=zo6 (sidT l l.length) hU (some ⟨g,0,none⟩) gc W (hid λV hV=>(HW.out V (hW.trans (hV.mono hW.size))).1) (hid λV hV=>(HW.out V (hW.trans (hV.mono hW.size))).2) λi u hu=>by
  have hi:=(List.getElem?_eq_some_iff.1 hu).1;rw[lU] at hi;unfold sidT at hu;rw[List.getElem?_map,List.getElem?_range hi] at hu;injection hu with hu;subst hu;obtain⟨c0,c1⟩:=hc i hi;refine⟨g,0,rfl,zbe c0,?_,?_⟩
  ·rw[Nat.zero_add,Nat.mul_comm,c0,show numS 1=[49] by decide+kernel]
  ·rw[Nat.zero_add,Nat.mul_comm,c1]
 rw[lU,<-hL,<-hN] at M;refine M.mono λe w' ⟨q,m,c,k,e1,hb,h⟩=>⟨q,m,c,k,e1,hb,h.imp (λ⟨a,b,c,d⟩=>⟨a,b,c,λx hx=>⟨Nat.le_trans h2 (d x hx).1,(d x hx).2⟩⟩) id⟩
theorem yhs:(sidT tri3 tri3.length).map nrT=[(4,1),(3,1),(5,1)]:=by decide+kernel
theorem ye0:zhg [(4,1),(3,1),(5,1)]:=by
 refine⟨λi t ht=>?_,λc hc _=>?_⟩
 ·match i,ht with
  |0,ht=>
   injection ht with ht;subst ht;exact⟨by decide+kernel,λc hc=>by cases hc⟩
  |1,ht=>
   injection ht with ht;subst ht;refine⟨by decide+kernel,λc hc _=>?_⟩;rw[show grG [(4,1),(3,1),(5,1)] 1=[((4:Rat),(1:Nat))] by decide+kernel,List.mem_singleton] at hc;subst hc;unfold okP;decide+kernel
  |2,ht=>
   injection ht with ht;subst ht;refine⟨by decide+kernel,λc hc _=>?_⟩;rw[show grG [(4,1),(3,1),(5,1)] 2=[((7:Rat),(1:Nat))] by decide+kernel,List.mem_singleton] at hc;subst hc;unfold okP;decide+kernel
 ·rw[show grG [((4:Rat),(1:Nat)),(3,1),(5,1)] [((4:Rat),(1:Nat)),(3,1),(5,1)].length=[((12:Rat),(1:Nat))] by decide+kernel,List.mem_singleton] at hc
  subst hc;unfold sz;decide+kernel
theorem yg8 (p:Option Addr) (cap:Nat) (w:zA) (HW:Hid (∀W,qL w W->Wd W/\Pw W)) (hp:RowPts p tri3 w):
 Calls zF 7 #[.slice p 3 cap] w λe w'=>∃g c,e=.returned (.tuple #[.slice (some ⟨g,0,none⟩) 1 c,.int .i64 0])/\Below w.heap.size w w'/\w'.cell? ⟨g,0,none⟩=some (St [49,50])/\w'.cell? ⟨g,1,none⟩=some (.string ⟨#[49]⟩):=by
 refine(ygj p cap tri3 (by decide) (by decide) (λp hp=>?_) zlg zj1 w HW hp).mono ?_
 ·have:∀p∈tri3,szC p:=by
   unfold tri3 szC szP sz;decide+kernel
  exact this p hp
 ·rintro e w' ⟨q,m,c,k,rfl,hb,h⟩
  rw[yhs] at h;rcases h with⟨rfl,h, -,ho⟩|⟨⟨_,h⟩,_⟩
  ·rw[show mkG [((4:Rat),(1:Nat)),(3,1),(5,1)]=[(12,1)] by decide+kernel] at h
   rcases h with⟨_,e⟩|⟨b,off,cap',e, -, -,hx⟩
   ·cases e
   ·injection e with e1 e2 e3
    have:=(ho _ e1).2;subst e1;have e4:off=0:=this;subst e4;subst e2;obtain⟨c0,c1⟩:=hx 0 _ rfl;refine⟨b,c,rfl,hb,?_,?_⟩
    ·have e:numS 12=[49,50]:=by decide+kernel
     rw[e] at c0;exact c0
    ·rw[show decDigits 1=[49] by rw[zae (by omega)];rfl] at c1
     exact c1
  ·exact absurd ye0 h
theorem yg9 (w:zA) (HW:Hid (∀W,qL w W->Wd W/\Pw W)):
 qJ 6 #[] w (.bool true):=by
 obtain⟨w1,hw1⟩:=zzX (w.alloc (.cells #[.string ⟨#[48]⟩,.string ⟨#[48]⟩,.string ⟨#[52]⟩,.string ⟨#[48]⟩,.string ⟨#[52]⟩,.string ⟨#[51]⟩] 32));have b1:qL w w1:=by rw[hw1];exact(Below.refl _ w).alloc (Nat.le_refl _) _
 have r1:RowPts (some ⟨w.heap.size,0,none⟩) tri3 w1:=by rw[hw1];exact yf3 w _
 have H1:=hid (⟨b1,r1⟩:_/\_);have HW1:=hid hw1;clear hw1 b1 r1;go_enter Tryz.func6,Tryz.ntmps6;go_wp21;rw[<-HW1.out];refine zzM (yf2 _ 3 w1 (HW.out _ H1.out.1).1 H1.out.2) λw2 hb=>?_;have H2:=hid (⟨H1.out.1.trans (hb.mono H1.out.1.size),H1.out.2.keep (zac hb)⟩:qL w w2/\RowPts (some ⟨w.heap.size,0,none⟩) tri3 w2);clear hb H1 HW1;go_wp21;refine(yg8 _ 3 w2 (hid λW h=>HW.out W (H2.out.1.trans (h.mono H2.out.1.size))) H2.out.2).mono ?_;rintro e w3 ⟨g,c,rfl,hb,g0,g1⟩;have H3:=hid (⟨H2.out.1.trans (hb.mono H2.out.1.size),H2.out.2.keep (zac hb),g0,g1⟩:qL w w3/\RowPts (some ⟨w.heap.size,0,none⟩) tri3 w3/\w3.cell? ⟨g,0,none⟩=some (St [49,50])/\w3.cell? ⟨g,1,none⟩=some (.string ⟨#[49]⟩));clear hb H2 g0 g1;go_wp21;refine zzM (yf4 _ 3 w3 (HW.out _ H3.out.1).1 H3.out.2.1) λw4 hb=>?_;have H4:=hid (⟨H3.out.1.trans (hb.mono H3.out.1.size),H3.out.2.1.keep (zac hb),zai hb H3.out.2.2.1,zai hb H3.out.2.2.2⟩:qL w w4/\RowPts (some ⟨w.heap.size,0,none⟩) tri3 w4/\w4.cell? ⟨g,0,none⟩=some (St [49,50])/\w4.cell? ⟨g,1,none⟩=some (.string ⟨#[49]⟩));clear hb H3;go_wp21;refine zzM (yf5 _ 3 w4 (HW.out _ H4.out.1).1 H4.out.2.1) λw5 hb=>?_;have H5:=hid (⟨H4.out.1.trans (hb.mono H4.out.1.size),H4.out.2.1.keep (zac hb),zai hb H4.out.2.2.1,zai hb H4.out.2.2.2⟩:qL w w5/\RowPts (some ⟨w.heap.size,0,none⟩) tri3 w5/\w5.cell? ⟨g,0,none⟩=some (St [49,50])/\w5.cell? ⟨g,1,none⟩=some (.string ⟨#[49]⟩));clear hb H4;go_wp21;refine zzM (yf6 _ 3 w5 (HW.out _ H5.out.1).1 H5.out.2.1) λw6 hb=>?_
 have H6:=hid (⟨H5.out.1.trans (hb.mono H5.out.1.size),zai hb H5.out.2.2.1,zai hb H5.out.2.2.2⟩:qL w w6/\w6.cell? ⟨g,0,none⟩=some (St [49,50])/\w6.cell? ⟨g,1,none⟩=some (.string ⟨#[49]⟩));clear hb H5;obtain⟨w7,hw7⟩:=zzX (w6.alloc (.cells #[.string ⟨#[49,50]⟩,.string ⟨#[49]⟩] 37));have b7:qL w6 w7:=by rw[hw7];exact(Below.refl _ w6).alloc (Nat.le_refl _) _
 have A7:w7.heap[w6.heap.size]? =some (.cells #[.string ⟨#[49,50]⟩,.string ⟨#[49]⟩] 37 (0,0)):=by rw[hw7];exact World.alloc_heap_new w6 _
 have S:=hid (yg7 g c w6.heap.size 1 w7 (zai b7 H6.out.2.1) (zai b7 H6.out.2.2) (by rw[zJ A7];rfl) (by rw[zJ A7];rfl));have B7:=hid (H6.out.1.trans (b7.mono H6.out.1.size));have HW7:=hid hw7;clear hw7 b7 A7 H6;go_wp21;rw[<-HW7.out];refine zzM S.out λw8 hb8=>?_;have B8:=hid (B7.out.trans (hb8.mono B7.out.size));clear hb8;go_wp21;go_ret;exact⟨rfl,B8.out⟩
end
section
open Go.RowKit Go.Shelf Lib Str Limb Geo
end
section
open Go.RowKit Go.Shelf Lib Str Limb
attribute [local go_sem] Oper.semAt_some
end
section
open Go.RowKit Go.Shelf Lib Str Limb Geo
attribute [local go_sem] Oper.semAt_some
section
variable {w W W':zA} {px py:List UInt8} {D:Nat} {f g:Nat->Bool}
end
section
variable {w W W':zA} {px py:List UInt8} {D A:Nat} {f g:Nat->Bool} {x y x' y':Value}
end
section
variable {w W W':zA} {px py:List UInt8} {D F:Nat} {f g is:Nat->Bool}
end
end
section
open Go.RowKit Go.Shelf Lib Str Limb Geo
theorem zjm {p:Option Addr} {q:List Pt} {W:zA} (h:RowTx p (txt q) W):RowPts p q W:=λi hi=>h i (by rw[zce];exact hi)
theorem yf8 (l:List (Rat×Nat)) (h:sgeL l≠0):sgeL l=4:=by
 unfold sgeL errP at*
 split
 ·rename_i e;rw[if_pos e] at h;exact absurd rfl h
 ·rename_i e
  rw[if_neg e] at h;split
  ·rfl
  ·rename_i e2;rw[if_neg e2] at h;exact absurd rfl h
theorem yht {l:List (Rat×Nat)} (h:sgnL l≠ -1):0<=sgnL l:=by
 unfold sgnL at*
 split
 ·omega
 ·rename_i e
  rw[if_neg e] at h;rcases zg3 l.length λk=>valZ l (plN k) with g|g|g
  ·omega
  ·exact absurd g.1 h
  ·omega
theorem zw6 {T l:List (Rat×Nat)} (hp:PosR T) (hlen:T.length<=4) (h:l=mkG T/\ShG (mkG T)\/l=[]):SdOk l 40/\l.length<=4:=by
 rcases h with⟨rfl,h⟩|rfl
 ·exact⟨yev hp (by omega) h,by have:=zw5 T;omega⟩
 ·exact⟨⟨by simp,λt h=>(by cases h),λi t u h=>(by simp at h),λi k t u _ h=>(by simp at h)⟩,by simp⟩
theorem yf9 (p:Option Addr) (cap ii kk:Nat) (hii:ii<256) (hkk:kk<256) (l:List (List UInt8×List UInt8))
 (w:zA) (AW:Hid (∀W:zA,qL w W->qJ 6 #[] W (.bool true))) (hw:Hw w) (hp:RowTx p l w):
 qJ 3 #[.slice p l.length cap,.int .u8 (ii:Int),.int .u8 (kk:Int)] w (.bool true):=by
 refine yeu p cap l.length ii kk (ii%l.length) (kk%l.length) hii hkk l (ygi l) (hid λW hW hr=>yhr p cap l W hW hr) w (hid hw.wd) (hid hp) AW (hid ⟨rfl,rfl⟩) (hid ?_);rintro⟨q,rfl,hz,⟨hs,hm⟩,h3,h10⟩ h4;rw[zce] at h4⊢;obtain⟨b,off,hpb,_⟩:=zgj (zjm hp) 0 (by omega);subst hpb;have C:=zwx hz (by omega);have sp:=zr0 hs;obtain⟨d,hd⟩:=zzX (((cor q ii).x-(cor q kk).x)*((cor q ii).x-(cor q kk).x)+((cor q ii).y-(cor q kk).y)*((cor q ii).y-(cor q kk).y));have d0:0<=d:=by rw[hd];have:=zmg ((cor q ii).x-(cor q kk).x);have:=zmg ((cor q ii).y-(cor q kk).y);grind
 have sd:sz d 87:=by
  rw[hd];have c1:=C kk;have c2:=C ii;exact zrz ⟨c2.1.1.1,c2.2.1⟩ ⟨c1.1.1.1,c1.2.1⟩ ⟨c2.1.2.1,c2.2.2⟩ ⟨c1.1.2.1,c1.2.2⟩
 have hdx:sz ((cor q ii).x-(cor q kk).x) 25:=zfq (C _).1.1 (C _).1.1;have hdy:sz ((cor q ii).y-(cor q kk).y) 25:=zfq (C _).1.2 (C _).1.2;have pS:=zlf sp;have pT:=zm6 d0;have nT:(dblT d).length<=4:=by unfold dblT;split<;>simp
 refine⟨h3,b,off,⟨(numS (cor q ii).x).toArray⟩,⟨(numS (cor q ii).y).toArray⟩,⟨(numS (cor q kk).x).toArray⟩,⟨(numS (cor q kk).y).toArray⟩,numS ((cor q ii).x-(cor q kk).x),numS ((cor q ii).y-(cor q kk).y),numS (((cor q ii).x-(cor q kk).x)*((cor q ii).x-(cor q kk).x)),numS (((cor q ii).y-(cor q kk).y)*((cor q ii).y-(cor q kk).y)),numS d,
  mkG ((sidT q q.length).map nrT),mkG (dblT d),rfl,yel sp (by omega),hid λW hr=>?_,λW hW=>(ygj _ cap q h3 h4 hz hs hm W (hid λV hV=>⟨((hw.below hW).below hV).wd,((hw.below hW).below hV).pw⟩) (zjm (hp.keep (zac hW)))).mono λe w' ⟨q,m,c,k,e1,hb,h⟩=>⟨q,m,c,k,e1,hb,h.imp (λh=>⟨h.1,h.2.1,h.2.2.1⟩) λh=>⟨h.1.1,h.2⟩⟩,λW hW=>ztz _ _ 12 12 (by omega) (by omega) (by omega) (C _).1.1 (C _).1.1 W (hw.below hW).wd,λW hW=>ztz _ _ 12 12 (by omega) (by omega) (by omega) (C _).1.2 (C _).1.2 W (hw.below hW).wd,
  λW hW=>zjf _ _ 25 25 (by omega) (by omega) (by omega) hdx hdx W (hw.below hW).wd,λW hW=>zjf _ _ 25 25 (by omega) (by omega) (by omega) hdy hdy W (hw.below hW).wd,λW hW=>?_,λW A hW hA=>yf0 d d0 (sd.mono (by omega)) A W (hw.below hW) hA,λW v1 v2 l1 l2 hW h1 h2 g1 g2=>?_⟩
 ·obtain⟨b1,off1,e1,h1,h2⟩:=zgj (zjm hr) ii (by omega)
  obtain⟨b2,off2,e2,h5,h6⟩:=zgj (zjm hr) kk (by omega);obtain⟨rfl,rfl⟩:b=b1/\off=off1:=by simpa using e1
  obtain⟨rfl,rfl⟩:b=b2/\off=off2:=by simpa using e2
  exact⟨h1,h2,h5,h6⟩
 ·rw[hd]
  exact zje _ _ 50 50 (by omega) (by omega) (by omega) (zca hdx hdx) (zca hdy hdy) W (hw.below hW).wd
 ·obtain⟨o1,n1⟩:=zw6 pS (by simp[sidT];omega) g1
  obtain⟨o2,n2⟩:=zw6 pT nT g2;refine(yex v1 v2 l1 l2 o1 o2 (by omega) W (hw.below hW) h1 h2).mono λe w' ⟨a,r,e1,hb,g⟩=>⟨a,r,e1,hb,λk1 k2=>?_⟩;rcases g with g|⟨rfl,rfl⟩
  ·exact .inl g
  ·subst k1;subst k2
   by_cases e0:sgeL (dfL (mkG ((sidT q q.length).map nrT)) (mkG (dblT d)))=0
   ·refine .inr ⟨e0,yht (yg2 sp (i:=ii%q.length) (j:=kk%q.length) (Nat.mod_lt _ (by omega)) (Nat.mod_lt _ (by omega)) ?_ e0)⟩
    rw[zj4,zj4,<-hd]
   ·exact .inl (yf8 _ e0)
end
section
open Go.RowKit Go.Shelf Lib Str Limb
open Go.ChangeShapes Go.WideShapes Go.ChangeAt
theorem zc1 {α:Type} (P:Nat->α->Prop):∀n,(∀i,i<n->∃x,P i x)->∃l:List α,l.length=n/\∀i (h:i<l.length),P i l[i]
 |0,_=>⟨[],rfl,λi h=>by simp at h⟩
 |n+1,h=>by
  obtain⟨l,hl,hP⟩:=zc1 P n (λi hi=>h i (by omega));obtain⟨x,hx⟩:=h n (by omega);refine⟨l++[x],by simp[hl],λi hi=>?_⟩;by_cases e:i<l.length
  ·rw[List.getElem_append_left e];exact hP i e
  ·have:i=n:=by simp at hi;omega
   subst this;rw[List.getElem_append_right (by omega)];simpa using hx
theorem zte {H:Type} {enc:TypeId×Value->H} {W:zA} {base:Nat} {sp:Nat->Bool} {held:Bool} {v:Value} {d:DataW H} {ps:List MemPlace} {r:Reach} {b0:Nat}
 (hval:Value.okWide zF W r b0 22 v) (hd:DataW.Trod enc zF W base sp held 22 v d ps):∃(p:Option Addr) (cap:Nat) (l:List (List UInt8×List UInt8)),v=.slice p l.length cap/\RowTx p l W:=by
 obtain⟨p,len,cap,rfl⟩:=okWide_slice Tryz.underlying22 hval;obtain⟨fuel,hf⟩:=hd;rcases DataW.trod_slice Tryz.underlying22 hf with⟨hcs,hx⟩|⟨a,len',cap',elems,rest,n,_,hcs,hx,hb,hl,hm,hlen,hel,_,_⟩
 ·simp[Value.cells] at hcs
  obtain⟨rfl,rfl,rfl⟩:=hcs;exact⟨none,0,[],rfl,λi hi=>by simp at hi⟩
 simp[Value.cells] at hcs;obtain⟨rfl,rfl,rfl⟩:=hcs;rw[show Tryz.prog.cellsOf 32=2 by kernel_rfl] at hel;have each:∀i,i<len->∃x:List UInt8×List UInt8,W.cell? (a.add (i*2))=some (St x.1)/\W.cell? ((a.add (i*2)).add 1)=some (St x.2):=by
  intro i hi;have h1:=hel i hi;rw[yB (by omega),Option.bind_eq_some_iff] at h1;obtain⟨cs,hcs,htr⟩:=h1;obtain⟨_,hcl,hce⟩:=World.cells?_some hcs;obtain⟨y0,y1,n',_,_,h0,h1⟩:=trod_struct2 Tryz.underlying32 htr;obtain⟨s0,e0,_,_⟩:=DataW.trod_string Tryz.underlying30 h0;obtain⟨s1,e1,_,_⟩:=DataW.trod_string Tryz.underlying30 h1;rw[show Tryz.prog.cellsOf 30=1 by kernel_rfl] at e0 e1
  match cs,hcl with
  |[c0,c1],_=>
   have k0:c0=.string s0:=by simpa using e0
   have k1:c1=.string s1:=by simpa using e1
   subst k0;subst k1;have g0:=hce 0 (by omega);have g1:=hce 1 (by omega);refine⟨(s0.data.toList,s1.data.toList),?_,?_⟩
   ·simpa [St,Addr.add] using g0
   ·simpa [St,Addr.add] using g1
 obtain⟨l,hll,hP⟩:=zc1 _ len each;subst hll;refine⟨some a,cap,l,rfl,λi hi=>?_⟩;obtain⟨h0,h1⟩:=hP i hi;obtain⟨b,off,spot⟩:=a;have hspot:spot=none:=by simpa [Addr.add] using World.cell?_spot (hP 0 (by omega)).1
 subst hspot;have ap:∀k,(⟨b,off,none⟩:Addr).add k=⟨b,off+k,none⟩:=λk=>by unfold Addr.add;split<;>simp_all
 have ap1:∀k,(⟨b,off+k,none⟩:Addr).add 1=⟨b,off+k+1,none⟩:=λk=>by unfold Addr.add;simp
 rw[ap] at h0 h1;rw[ap1] at h1;have ep:ptOf l i=l[i]:=by unfold ptOf;rw[yB hi];rfl
 rw[ep];exact⟨b,off,rfl,h0,h1⟩
theorem zea {H:Type} {enc:TypeId×Value->H} {W:zA} {base:Nat} {sp:Nat->Bool} {held:Bool} {v:Value} {d:DataW H} {ps:List MemPlace} {r:Reach} {b0:Nat}
 (hval:Value.okWide zF W r b0 5 v) (hd:DataW.Trod enc zF W base sp held 5 v d ps):∃n:Nat,n<256/\v=.int .u8 (n:Int)/\ps=[]:=by
 obtain⟨n,rfl⟩:=okWide_int Tryz.underlying5 hval;obtain⟨fuel,hf⟩:=hd;obtain⟨m,e,hx,hw⟩:=DataW.trod_int Tryz.underlying5 hf;have hm:n=m:=by simpa [Value.cells] using e
 subst hm;simp[Lit.wf,IntKind.min,IntKind.max,IntKind.signed,IntKind.bits] at hw;simp only[Prod.mk.injEq] at hx;exact⟨n.toNat,by omega,by rw[show((n.toNat:Nat):Int)=n by omega],hx.2⟩
theorem zjj (os:Os) (started:os.Started) (H:Type) (enc:TypeId×Value->H):
 ReturnsInHanded {} Tryz.checked os 3 .any (λw args=>(Rows.polygonPerimeterSpec.pre enc zF Tryz.f3 [] false w args/\laidMetH zF Rows.polygonPerimeterRow.laid w)/\sizedMet enc zF Tryz.f3 (OpenSpec.ofChange Rows.polygonPerimeterSpec) false w args)
  (Rows.polygonPerimeterSpec.post enc zF Tryz.f3 false true false false):=by
 refine zf9 (C:=Tryz.checked) (X:=λw _=>laidMetH zF Rows.polygonPerimeterRow.laid w) (λ_ _ _ hh h=>h.of_heap hh) zrj started (by kernel_rfl) Tryz.func3
  (ChangeSpec.witness_shaped (enc:=enc) (C:=Tryz.checked) (os:=os) (X:=λw _=>laidMetH zF Rows.polygonPerimeterRow.laid w) false (World.laidAll zF os Rows.polygonPerimeterRow.laid)
    #[.slice none 0 0,.int .u8 0,.int .u8 0] 8 (World.laidAll_os _ _ _)
    (World.shaped_of_ZipB (by kernel_rfl) (by kernel_rfl)) (by kernel_rfl) (by kernel_rfl) (by kernel_rfl)
    (by rw[MakeChecks.laidMetH_plain _ _ _ (by kernel_rfl)];exact laidMet_laidAll _ (by kernel_rfl) (by kernel_rfl))) ?_
 intro W args ds gs before base hval0 hW hL hsh;have hval:∀(j:Nat) t v,Tryz.f3.params[j]? =some t->args[j]? =some v->Value.okWide zF W .any base t v:=hval0;have hW':=hW;obtain⟨p,q,hA0,hV,rfl,_,_⟩:=hW;have hA:DataW.TrodAll enc zF W 0 (λ_=>true) true Tryz.f3.params.toList args.toList ds p:=hA0;rw[Tryz.params3] at hA hval;obtain⟨v0,vs0,d0,ds0,p0,q0,e0,rfl,rfl,h0,hA⟩:=trodAll_cons hA;obtain⟨v1,vs1,d1,ds1,p1,q1,rfl,rfl,rfl,h1,hA⟩:=trodAll_cons hA;obtain⟨v2,vs2,d2,ds2,p2,q2,rfl,rfl,rfl,h2,hA⟩:=trodAll_cons hA;obtain⟨rfl,rfl,rfl⟩:=trodAll_nil hA;obtain rfl:args= #[v0,v1,v2]:=by cases args;simp_all
 obtain⟨rfl,rfl⟩:=trodVars_none hV;simp only[List.append_nil] at hW';have hlt:∀x∈p0++(p1++p2),x.block<W.heap.size:=λx hx=>by simpa using hW'.lt x (by simpa using hx)
 have k0:=h0;have k1:=h1;have k2:=h2;obtain⟨p,cap,l,rfl,hr⟩:=zte (hval 0 22 v0 rfl rfl) h0;obtain⟨n1,g1,rfl,rfl⟩:=zea (hval 1 5 v1 rfl rfl) h1;obtain⟨n2,g2,rfl,rfl⟩:=zea (hval 2 5 v2 rfl rfl) h2;have hM:laidMet zF Rows.polygonPerimeterRow.laid W:=by rw[<-MakeChecks.laidMetH_plain _ _ _ (by kernel_rfl)];exact hL
 have hwd:Wd W:=z0v hM (.tail _ (.tail _ (.head _))) hsh;have hpw:Pw W:=z0w hM (.tail _ (.tail _ (.tail _ (.tail _ (.tail _ (.tail _ (.head _)))))));have hsw:Spw W:=z80 hM (.tail _ (.tail _ (.tail _ (.tail _ (.tail _ (.tail _ (.tail _ (.head _))))))));refine(yf9 p cap n1 n2 g1 g2 l W (hid λX hX=>yg9 X (hid λY hY=>⟨hwd.below (hX.trans (hY.mono hX.size)),hpw.below (hX.trans (hY.mono hX.size))⟩)) ⟨hwd,hpw,hsw⟩ hr).mono λe W' ⟨he,hb⟩=>?_;subst he;have t0:=Below.trod zgh (by kernel_rfl) (of_decide_eq_true (by kernel_rfl)) k0 hb (λx hx=>hlt x (by simp[hx]));have t1:=Below.trod zgh (by kernel_rfl) (of_decide_eq_true (by kernel_rfl)) k1 hb (λ_ h=>by cases h);have t2:=Below.trod zgh (by kernel_rfl) (of_decide_eq_true (by kernel_rfl)) k2 hb (λ_ h=>by cases h);exact⟨_,rfl,_,_,_,[],_,[],hW',trodAll_mk1 (shut_bool Tryz.underlying4 _),trodAll_mk3 t0 t1 t2,rfl,hb.frame _,λh=>by cases h⟩
theorem yha:mapsRowed zF=true:=by kernel_rfl
theorem yhu:namedTie zF Rows.polygonPerimeterRow.named Rows.polygonPerimeterSpec.vars=true:=by kernel_rfl
theorem yga:(Rows.polygonPerimeterRow.inPlace==Tryz.prog.inPlace 3)=true:=by kernel_rfl
theorem yhv:(Rows.polygonPerimeterRow.unfollowed==Tryz.prog.unfollowed 3)=true:=by kernel_rfl
theorem yhw:(Rows.polygonPerimeterRow.recurses==Tryz.prog.recurses 3)=true:=by kernel_rfl
theorem ygb:(Rows.polygonPerimeterRow.named==Tryz.prog.varsNamed 3)=true:=by kernel_rfl
theorem ygc:Tryz.prog.stopsHeard=true:=by kernel_rfl
theorem ygd:Tryz.prog.mayEnter=true:=by kernel_rfl
theorem ye1:(Rows.polygonPerimeterRow.lifted==Tryz.prog.liftsFinal)=true:=by kernel_rfl
theorem yhb:(Tryz.prog.make==some Rows.polygonPerimeterRow.make)=true:=by kernel_rfl
theorem yhc:(Rows.polygonPerimeterRow.plainKeys==Tryz.prog.plainKeys)=true:=by kernel_rfl
theorem yhd:Tryz.pinned.checked.prog.funcNamed Rows.polygonPerimeterRow.func=some 3:=by kernel_rfl
theorem yhx:joinedFacts zF 3 Tryz.f3 Rows.polygonPerimeterSpec Rows.polygonPerimeterRow=true:=by
 unfold joinedFacts;simp only[Bool.and_eq_true]
 repeat' apply And.intro
 all_goals first|with_reducible exact zgh|with_reducible exact yha|with_reducible exact yhu|with_reducible exact yga|with_reducible exact yhv|with_reducible exact yhw|with_reducible exact ygb|with_reducible exact ygc|with_reducible exact ygd|with_reducible exact ye1|with_reducible exact yhb|with_reducible exact yhc|kernel_rfl
theorem zlk:Rows.PolygonPerimeterSaid:=
 OpenClaim.holds_of_wide 3 Tryz.f3 rfl rfl rfl rfl rfl rfl rfl ⟨rfl,rfl,rfl,rfl,rfl⟩ rfl rfl rfl rfl rfl yhd Tryz.func3 yhx
  (of_decide_eq_true (by kernel_rfl)) (by unfold Func.isWrapper;first|(rw[if_pos (by decide+kernel)];kernel_rfl)|(rw[if_neg (by decide+kernel)];exact⟨rfl,rfl⟩))
  (λos started H enc _=>zjj os started H enc)
end
end Go.Proofs.YtnjiiafnneillaaGreatDoor
