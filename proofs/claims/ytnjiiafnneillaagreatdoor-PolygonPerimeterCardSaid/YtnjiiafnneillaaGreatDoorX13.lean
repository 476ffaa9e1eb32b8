/- surd.class.plus at any roots. -/
import Derived.Test.YtnjiiafnneillaaGreatDoorX12
import Derived.Lib.AppendZerosOnto
import Derived.Laws.AppendOwnNone
import Derived.LaidByTextLater
set_option maxRecDepth 100000
set_option maxHeartbeats 8000000
open Go renaming World → zA, Calls → zC
open Go.RowKit renaming Below → zB, intOf → zL
open Go.Lib renaming decDigits → zD, itoa → zE
open Go.Proofs.Tryz renaming prog → zF
open Go.World renaming alloc_heap_new → zG
open Go.IntWalk renaming i64_in → zI
open Go.Joins renaming cell_of_block → zJ
open Go.RowKit.Below renaming refl → zM
open Nat renaming le_refl → zN, le_trans → zO, zero_le → zR
open List renaming length_append → zU, length_map → zV, getElem?_eq_getElem → yB, mem_cons_self → yD
open Int renaming natAbs_mul → yK
namespace Go.Proofs.YtnjiiafnneillaaGreatDoor
section
open Go.RowKit Go.Shelf Lib Str Limb
attribute [local go_sem] Oper.semAt_some
structure PlsS (w:zA) (x xr y yr:List UInt8) (W:zA):Prop where
 bel:qL w W
 h0:W.heap[w.heap.size]? =some (.cells #[St x,St xr] 87 (0,0))
 h1:W.heap[w.heap.size+1]? =some (.cells #[St y,St yr] 87 (0,0))
 h2:W.heap[w.heap.size+1+1]? =some (.cells #[St [],St []] 87 (0,0))
theorem PlsS.next {w:zA} {x xr y yr:List UInt8} {W W':zA} (h:PlsS w x xr y yr W) (hb:qL W W'):PlsS w x xr y yr W':=
 have hc:=zac hb
 ⟨h.bel.trans (hb.mono h.bel.size),hc _ _ _ _ h.h0,hc _ _ _ _ h.h1,hc _ _ _ _ h.h2⟩
theorem PlsS.cells {w:zA} {x xr y yr:List UInt8} {W:zA} (h:PlsS w x xr y yr W):
 W.cell? ⟨w.heap.size,0,none⟩=some (St x)/\W.cell? ⟨w.heap.size,1,none⟩=some (St xr)/\W.cell? ⟨w.heap.size+1,0,none⟩=some (St y)/\W.cell? ⟨w.heap.size+1,1,none⟩=some (St yr)/\
 W.cell? ⟨w.heap.size+1+1,0,none⟩=some (St [])/\W.cell? ⟨w.heap.size+1+1,1,none⟩=some (St [])/\W.frozen? ⟨w.heap.size+1+1,0,none⟩=false/\W.frozen? ⟨w.heap.size+1+1,1,none⟩=false:=by
 refine⟨?_,?_,?_,?_,?_,?_,Go.Joins.unfrozen_of_block h.h2 0,Go.Joins.unfrozen_of_block h.h2 1⟩
 ·rw[zJ h.h0];rfl
 ·rw[zJ h.h0];rfl
 ·rw[zJ h.h1];rfl
 ·rw[zJ h.h1];rfl
 ·rw[zJ h.h2];rfl
 ·rw[zJ h.h2];rfl
theorem PlsS.start (w:zA) (x xr y yr:List UInt8):PlsS w x xr y yr (((w.alloc (.cells #[St x,St xr] 87)).alloc (.cells #[St y,St yr] 87)).alloc (.cells #[St [],St []] 87)):=by
 refine⟨(((zM _ w).alloc (zN _) _).alloc (by simp) _).alloc (by simp;omega) _,?_,?_,?_⟩
 ·exact(Below.heap_alloc _ _ _ (by simp;omega)).trans ((Below.heap_alloc _ _ _ (by simp)).trans (zG w _))
 ·have:=zG (w.alloc (.cells #[St x,St xr] 87)) (.cells #[St y,St yr] 87)
  rw[World.size_alloc] at this;exact(Below.heap_alloc _ _ _ (by simp)).trans this
 ·have:=zG ((w.alloc (.cells #[St x,St xr] 87)).alloc (.cells #[St y,St yr] 87)) (.cells #[St [],St []] 87)
  simp only[World.size_alloc] at this;exact this
theorem zvt (x xr y yr k m z:List UInt8) (is:Bool)
 (R:Hid (qK 114 #[St yr,St xr] (.tuple #[St k,.bool is,.int .i64 0])))
 (M:Hid (qK 9 #[St y,St k] (.tuple #[St m,.int .i64 0])))
 (A:Hid (qK 10 #[St x,St m] (.tuple #[St z,.int .i64 0])))
 (w:zA) (HW:Hid (Wd w)):
 qJ 115 #[.agg #[St x,St xr],.agg #[St y,St yr]] w (.tuple #[.agg #[St z,St xr],.int .i64 0]):=by
 have hS:=PlsS.start w x xr y yr;obtain⟨c0,c1,c2,c3,c4,c5,f0,f1⟩:=hS.cells;obtain⟨W1,hW1⟩:=zzX (((w.alloc (.cells #[St x,St xr] 87)).alloc (.cells #[St y,St yr] 87)).alloc (.cells #[St [],St []] 87));rw[<-hW1] at hS;have HS:=hid hS;have HW1:=hid hW1;clear hS hW1;go_enter Tryz.func115,Tryz.ntmps115;go_wp21;have h9:=HW1.out;rw[<-h9];clear h9 c0 c1 c2 c3 c4 c5 f0 f1;refine zzM (R.out W1 (HW.out.below HS.out.bel)) λw2 hb2=>?_;have H2:=hid (HS.out.next hb2);clear hb2 HS HW1;obtain⟨c0,c1,c2,c3,c4,c5,f0,f1⟩:=H2.out.cells;go_wp21;refine zzM (M.out w2 (HW.out.below H2.out.bel)) λw3 hb3=>?_;have H3:=hid (H2.out.next hb3);clear hb3 H2 c0 c1 c2 c3 c4 c5 f0 f1;obtain⟨c0,c1,c2,c3,c4,c5,f0,f1⟩:=H3.out.cells;go_wp21;refine zzM (A.out w3 (HW.out.below H3.out.bel)) λw4 hb4=>?_;have H4:=hid (H3.out.next hb4);clear hb4 H3 c0 c1 c2 c3 c4 c5 f0 f1;obtain⟨c0,c1,c2,c3,c4,c5,f0,f1⟩:=H4.out.cells;have hB4:=H4.out.bel;go_wp21;refine bodyPost_ret (v:=.tuple #[.agg #[St z,St xr],.int .i64 0]) (by simp[results,Tryz.results115,go_sem,c4,c5]) rfl ⟨rfl,?_⟩
 repeat(first|exact hB4|refine Below.setCell ?_ (by simp;omega) _)
theorem nm_1:numS (-1)=[45,49]:=by have:=zha (-1);rw[show((-1:Int):Rat)= -1 from rfl] at this;rw[this];decide+kernel
theorem zb7:sz 0 1/\sz 1 1/\sz 2 1/\sz 4 1/\sz (-1) 1/\sz (-2) 1:=⟨⟨by decide,by decide⟩,⟨by decide,by decide⟩,⟨by decide,by decide⟩,⟨by decide,by decide⟩,⟨by decide,by decide⟩,⟨by decide,by decide⟩⟩
def scK (C Y:Nat->List UInt8):Nat->List (List UInt8×List UInt8)
 |0=>[]
 |k+1=>scK C Y k++[(C k,Y k)]
theorem z6y (p:Option Addr) (cap n:Nat) (X Y C:Nat->List UInt8) (c:List UInt8) (hn:n<=256)
 (w:zA) (HW:Hid (∀W,qL w W->Wd W))
 (M:Hid (∀i,i<n->qK 9 #[St (X i),St c] (.tuple #[St (C i),.int .i64 0])))
 (T:Hid (∀i,i<n->∃b off,p=some ⟨b,off,none⟩/\b<w.heap.size/\w.cell? ⟨b,off+i*2,none⟩=some (St (X i))/\w.cell? ⟨b,off+i*2+1,none⟩=some (St (Y i)))):
 zC zF 121 #[.slice p n cap,St c] w λe w'=>∃q d,e=.returned (.tuple #[.slice q n d,.int .i64 0])/\zB w.heap.size w w'/\w'.ownsRow w.heap.size 37 2 (.slice q n d) n (zbj (scK C Y n)):=by
 obtain⟨i0,hi,hz0,hz1,hz2⟩:=info_parts zsc;have D0:=hid (zM w.heap.size w);have O0:=hid (show w.ownsRow w.heap.size 37 2 (.slice none 0 0) 0 (zbj (scK C Y 0)) from World.ownsRow_nil _ _ _ _);go_enter Tryz.func121,Tryz.ntmps121;go_wp21;go_loopw [6,13] (λv i wr=>∃(k:Nat) (q:Option Addr) (d:Nat),k<=n/\i=.int .i64 (k:Int)/\v=.slice q k d/\Hid (qL w wr)/\Hid (wr.ownsRow w.heap.size 37 2 (.slice q k d) k (zbj (scK C Y k))))
  (λ_ i _=>n-(zL i).toNat)
 case atStart=>exact⟨0,none,0,zR _,rfl,rfl,D0,O0⟩
 case round=>
  clear D0 O0;obtain⟨k,q,d,hk,rfl,rfl,D1,O1⟩:=hrel;by_cases hlt:k<n
  ·obtain⟨b,off,rfl,hb,c0,c1⟩:=T.out k hlt
   have t0:wr.cell? ⟨b,off+k*2,none⟩=some (St (X k)):=by rw[D1.out.cell (p:=⟨b,off+k*2,none⟩) hb];exact c0
   have t1:wr.cell? ⟨b,off+k*2+1,none⟩=some (St (Y k)):=by rw[D1.out.cell (p:=⟨b,off+k*2+1,none⟩) hb];exact c1
   have M1:=hid (M.out k hlt);have HS:=hid (show scK C Y (k+1)=scK C Y k++[(C k,Y k)] from rfl);generalize X k=x at*
   generalize Y k=y at*
   generalize C k=z at*
   obtain⟨v1,hv⟩:=zzX (wr.alloc (.cells #[St x,St y] 37));have a1:qL wr v1:=by rw[hv];exact(zM _ wr).alloc (zN _) _
   have A1:v1.heap[wr.heap.size]? =some (.cells #[St x,St y] 37 (0,0)):=by rw[hv];exact zG wr _
   have k0:v1.cell? ⟨wr.heap.size,0,none⟩=some (St x):=by rw[zJ A1];rfl
   rw[hv] at k0;have HV1:=hid hv.symm;have E1:=hid (D1.out.trans (a1.mono D1.out.size));have B1:=hid A1;have O2:=hid (zcj (zac a1) O1.out);clear hv a1 A1 c0 c1 hb O1;go_wp21;rw[HV1.out];clear t0 t1 k0 HV1;refine zzM (M1.out v1 (HW.out _ E1.out)) λu1 hb1=>?_;have E2:=hid (E1.out.trans (hb1.mono E1.out.size));have O3:=hid (zcj (zac hb1) O2.out);have B2:=hid (zac hb1 _ _ _ _ B1.out);clear hb1 E1 O2 B1 M1;have k1:u1.cell? ⟨wr.heap.size,1,none⟩=some (St y):=by rw[zJ B2.out];rfl
   go_wp2_with (at_builtin;refine wpList_append_own _ rfl _ _ 25 rfl w.heap.size 37 i0 (.agg #[St [],St []]) 2 32 Tryz.underlying25 hi hz0 hz1 hz2 rfl (by decide) _ _ _ rfl (O3.out.alloc _) ⟨u1.heap.size,0,none⟩ 1 1 [St z,St y] rfl rfl (zoq _ _ _ _) (zm4 _ _) (by unfold maxLen;omega) (by omega) (by have:=E2.out.size;simp;omega) (λv' w' hown' hgrow _=>?_));obtain⟨g',c',rfl, -, -⟩:=zye hown' (by omega);have F1:Hid (qL w w'):=hid ((E2.out.alloc E2.out.size _).grown hgrow (by have:=E2.out.size;simp;omega) (λq e=>(O3.out.lt q e).1));have G1:Hid (w'.ownsRow w.heap.size 37 2 (.slice (some ⟨g',0,none⟩) (k+1) c') (k+1) (zbj (scK C Y (k+1)))):=hid (by rw[HS.out,zjb];exact hown');clear hgrow hown' E2 O3 B2 k1;go_roundw
   case rel=>exact⟨k+1,some ⟨g',0,none⟩,c',by omega,by go_num,rfl,F1,G1⟩
   case measure=>simp[zL];omega
  ·have hkn:k=n:=by omega
   subst hkn;go_wp21;go_ret2;exact⟨q,d,rfl,D1.out,O1.out⟩
def spV:Array Value:= #[.int .i64 4,.int .i64 16,.int .i64 64]
structure Spw (w:zA):Prop where
 pl:w.var? zF "kingpost/surd.signPlaces" =some spV
theorem Spw.below {w w':zA} (h:Spw w) (hb:qL w w'):Spw w':=by
 have hg:Tryz.prog.globalNamed "kingpost/surd.signPlaces" =some 0:=by kernel_rfl
 exact⟨var?_below hb hg (zv5 hg h.pl) h.pl⟩
theorem Spw.block {w:zA} (h:Spw w):∃t fz,w.heap[0]? =some (.cells spV t fz):=by
 have hg:Tryz.prog.globalNamed "kingpost/surd.signPlaces" =some 0:=by kernel_rfl
 have hv:=h.pl;unfold World.var? at hv;rw[hg] at hv;simp only[Option.bind_some] at hv
 cases hb:w.heap[(0:Nat)]? with
 |none=>rw[hb] at hv;cases hv
 |some x=>
  rw[hb] at hv
  cases x with
  |cells cs t fz=>simp at hv;subst hv;exact⟨t,fz,rfl⟩
  |_=>cases hv
def plN:Nat->Nat
 |0=>4
 |1=>16
 |_=>64
theorem z8x (i:Nat) (hi:i<3) (w:zA):(Instr.index 170 (.agg spV) (.int .i64 (i:Int))).run zF w=.ok (.int .i64 (plN i:Int)) w:=
 match i,hi with
 |0,_=>by kernel_rfl
 |1,_=>by kernel_rfl
 |2,_=>by kernel_rfl
theorem znq (n s:Nat) (hs:s*s<=n/\n<(s+1)*(s+1)) (hl:(zD n).length<=290) (w:zA) (hw:Wd w):
 qJ 78 #[St (zD n)] w (.tuple #[St (zD s),.int .i64 0]):=by
 obtain⟨t,ht⟩:=zzX (⟨(zD n).toArray⟩:ByteArray);obtain⟨s1,s2,s3,s4⟩:=zco _ (zci n) t ht;obtain⟨c,r,hd,hc1,hc2⟩:=dec_head n;have h45:(((t[0]'s2).toNat:Int)==45)=false:=by
  rw[beq_eq_false_iff_ne,s4 s2];simp only[hd,List.head_cons];omega
 have ck:∀W:zA,qJ 152 #[.string t] W (.int .i64 0):=λW=>by
  have:=zl4 (n:Int) (by unfold digs;rw[Int.natAbs_natCast];omega) W;rw[Str.zad] at this;rw[ht];exact this
 have rd:∀W:zA,zC zF 105 #[.string t] W λe w'=>∃v,e=.returned (.agg #[.bool false,v])/\Sl w' v ((zaa B9 n).map I)/\zB W.heap.size W w':=λW=>by
  have:=zc3 (n:Int) W (by unfold digs;rw[Int.natAbs_natCast];omega);rw[Str.zad,decide_eq_false (by omega),Int.natAbs_natCast] at this;rw[ht];exact this
 show zC _ _ #[.string ⟨(zD n).toArray⟩] _ _;rw[<-ht];by_cases h0:n=0
 ·have hs0:s=0:=by
   by_cases d:s=0
   ·exact d
   ·have:=Nat.mul_pos (show 0<s by omega) (show 0<s by omega);omega
  have h48:(t.toList==[48])=true:=by rw[ht,ByteArray.toList_eq,h0,zae (by omega)];rfl
  have:=z7g t s2 h45 h48 (hid ck) w;rw[hs0];rw[show St (zD 0)=.string t by rw[ht,h0]];exact this
 ·have h48:(t.toList==[48])=false:=zhl ht 0 (by omega) h0
  by_cases hsm:(zD n).length<=18
  ·have hn18:n<1000000000000000000:=(zaf n 18 (by omega)).1 hsm
   refine z6p t n s s2 h45 h48 (by omega) (hid ck) (hid rd) (hid λW hW=>?_) w (hid hw);refine zd3 t n s (by omega) (hid hn18) (hid hs) (hid λW=>?_) (hid λW hW=>?_) W (hid hW)
   ·have:=znc (n:Int) (by rw[Str.zad];exact hsm) W
    rw[Str.zad] at this;rw[ht];exact this
   ·have hsn:s<=n:=zO (Nat.le_mul_self s) hs.1
    have:=zb3 (s:Int) (by omega) (by omega) W hW;rw[Str.zad] at this;exact this
  ·obtain⟨k,hk⟩:∃k,(t.size+1)/2=k:=⟨_,rfl⟩
   have hn2:n<10^(2*k):=(zaf n (2*k) (by omega)).1 (by omega);have hk2:k<=146:=by omega
   have hX:=z7e hs.1 hn2;have hrep:=λW=>Tryz.strings_Repeat ⟨#[48]⟩ k W (by omega) (by show 1*k<=_;omega);have b9:∀m,m<10^320->(zaa B9 m).length<=400:=λm hm=>zO (zfv (k:=36) (by decide) (Nat.lt_of_lt_of_le hm (by decide+kernel))) (by omega);have n200:n<10^290:=(zaf n 290 (by omega)).1 hl;have x101:10^k<=10^146:=Nat.pow_le_pow_right (by omega) hk2;have p1:(10:Nat)^290+10^146<=10^320:=by decide+kernel
   have y1:(⟨#[49]⟩:ByteArray)++⟨(Lib.repeatL [48] k).toArray⟩=⟨(zD (10^k)).toArray⟩:=by
    rw[z13,zhy];exact z7h [49] (List.replicate k 48)
   refine z7f t ⟨(Lib.repeatL [48] k).toArray⟩ ⟨(zD (10^k)).toArray⟩ n s k (10^k) (hid hs) (by omega) (Nat.pos_of_ne_zero (by simp)) hX (hid ⟨b9 _ (by omega),b9 _ (by omega),b9 _ (by omega)⟩) s2 h45 h48 (by omega) (by omega) hk (hid ck) (hid rd) (hid hrep) (hid λW=>?_) ?_ y1 ?_ w (hid hw)
   ·have hx2:10^k<10^147:=Nat.pow_lt_pow_right (by omega) (by omega)
    have:=zc3 ((10^k:Nat):Int) W (by unfold digs;rw[Int.natAbs_natCast];exact zO ((zaf _ 147 (by omega)).2 hx2) (by omega));rw[Str.zad,decide_eq_false (by omega),Int.natAbs_natCast] at this;exact this
   ·show(Lib.repeatL [48] k).toArray.size<=1000
    rw[zhy];simp;omega
   ·unfold digs
    rw[Int.natAbs_natCast];exact zO ((zaf _ 147 (by omega)).2 (Nat.lt_of_le_of_lt (zO hX x101) (Nat.pow_lt_pow_right (by omega) (by omega)))) (by omega)
theorem z3j (c r d a1 a2 ten a3 rt q rest res:List UInt8) (n again zb:ByteArray) (hzb:zb.size<=1000) (ps:Nat) (hps:ps<=100) (n0:0<n.size) (ng:Bool)
 (hng:(((n[0]'n0).toNat:Int)==45)=ng)
 (P:Hid (qK 116 #[St c] (.tuple #[.string n,St d,.int .i64 0])))
 (M1:Hid (qK 41 #[.string n,.string n] (.tuple #[St a1,.int .i64 0])))
 (M2:Hid (qK 41 #[St a1,St r] (.tuple #[St a2,.int .i64 0])))
 (RP:Hid (∀W:zA,qJ 76 #[.string ⟨#[48]⟩,.int .i64 (2*(ps:Int))] W (.string zb)))
 (TN:Hid ((⟨#[49]⟩:ByteArray)++zb=⟨ten.toArray⟩))
 (M3:Hid (qK 41 #[St a2,St ten] (.tuple #[St a3,.int .i64 0])))
 (R:Hid (qK 78 #[St a3] (.tuple #[St rt,.int .i64 0])))
 (D:Hid (qK 111 #[St rt,St d] (.tuple #[St q,St rest,.int .i64 0])))
 (hpos:ng=false->q=res)
 (M4:Hid (ng=true->qK 41 #[St rt,St rt] (.tuple #[.string again,.int .i64 0])))
 (E:Hid (ng=true->((again.toList==a3)=true/\(rest==[48])=true/\qK 38 #[.string ⟨#[48]⟩,St q] (.tuple #[St res,.int .i64 0]))\/
   (((again.toList==a3)=false\/(rest==[48])=false)/\∃q1,(qK 44 #[St q,.string ⟨#[49]⟩] (.tuple #[St q1,.int .i64 0]))/\qK 38 #[.string ⟨#[48]⟩,St q1] (.tuple #[St res,.int .i64 0]))))
 (w:zA) (HW:Hid (Wd w)):
 qJ 123 #[.agg #[St c,St r],.int .i64 (ps:Int)] w (St res):=by
 have hw2:IntKind.i64.wrap (2*(ps:Int))=2*(ps:Int):=zI _ (by omega);obtain⟨v1,hv⟩:=zzX (w.alloc (.cells #[St c,St r] 37));have a1':qL w v1:=by rw[hv];exact(zM _ w).alloc (zN _) _
 have A1:v1.heap[w.heap.size]? =some (.cells #[St c,St r] 37 (0,0)):=by rw[hv];exact zG w _
 have k0:v1.cell? ⟨w.heap.size,0,none⟩=some (St c):=by rw[zJ A1];rfl
 rw[hv] at k0;have HV1:=hid hv.symm;have E1:=hid a1';have B1:=hid A1;clear hv a1' A1;go_enter Tryz.func123,Tryz.ntmps123;go_wp21;rw[HV1.out];clear k0 HV1;refine zzM (P.out v1 (HW.out.below E1.out)) λy1 hb1=>?_;have E2:=hid (E1.out.trans (hb1.mono E1.out.size));have B2:=hid (zac hb1 _ _ _ _ B1.out);clear hb1 E1 B1;go_wp21;refine zzM (M1.out y1 (HW.out.below E2.out)) λy2 hb1=>?_;have E3:=hid (E2.out.trans (hb1.mono E2.out.size));have B3:=hid (zac hb1 _ _ _ _ B2.out);clear hb1 E2 B2;have k1:y2.cell? ⟨w.heap.size,1,none⟩=some (St r):=by rw[zJ B3.out];rfl
 go_wp21;refine zzM (M2.out y2 (HW.out.below E3.out)) λy3 hb1=>?_;have E4:=hid (E3.out.trans (hb1.mono E3.out.size));clear hb1 E3 B3 k1;go_wp21;refine zzM (RP.out y3) λy4 hb1=>?_;have E5:=hid (E4.out.trans (hb1.mono E4.out.size));clear hb1 E4;go_wp21;rw[TN.out];refine zzM (M3.out y4 (HW.out.below E5.out)) λy5 hb1=>?_;have E6:=hid (E5.out.trans (hb1.mono E5.out.size));clear hb1 E5;go_wp21;refine zzM (R.out y5 (HW.out.below E6.out)) λy6 hb1=>?_;have E7:=hid (E6.out.trans (hb1.mono E6.out.size));clear hb1 E6;go_wp21;refine zzM (D.out y6 (HW.out.below E7.out)) λy7 hb1=>?_;have E8:=hid (E7.out.trans (hb1.mono E7.out.size));clear hb1 E7;cases ng
 ·obtain rfl:=hpos rfl
  clear M4 E;go_wp21;go_ret;exact⟨rfl,E8.out⟩
 ·have HM4:=hid (M4.out rfl);have HE:=hid (E.out rfl)
  clear M4 E hpos;go_wp21;refine zzM (HM4.out y7 (HW.out.below E8.out)) λy8 hb1=>?_;have E9:=hid (E8.out.trans (hb1.mono E8.out.size));clear hb1 E8 HM4;rcases HE.out with⟨e1,e2,hs⟩|⟨e1,q1,ha,hs⟩
  ·have HS:=hid hs;clear HE hs
   go_wp21;refine zzM (HS.out y8 (HW.out.below E9.out)) λy9 hb1=>?_;have F1:=hid (E9.out.trans (hb1.mono E9.out.size));clear hb1;go_wp21;go_ret;exact⟨rfl,F1.out⟩
  ·have HS:=hid hs;have HA:=hid ha;clear HE hs ha
   rcases e1 with e1|e1
   ·go_wp21
    refine zzM (HA.out y8 (HW.out.below E9.out)) λz1 hb1=>?_;have F1:=hid (E9.out.trans (hb1.mono E9.out.size));clear hb1;go_wp21;refine zzM (HS.out z1 (HW.out.below F1.out)) λz2 hb1=>?_;have F2:=hid (F1.out.trans (hb1.mono F1.out.size));clear hb1;go_wp21;go_ret;exact⟨rfl,F2.out⟩
   ·cases e2:(again.toList==a3)
    ·go_wp21
     refine zzM (HA.out y8 (HW.out.below E9.out)) λz1 hb1=>?_;have F1:=hid (E9.out.trans (hb1.mono E9.out.size));clear hb1;go_wp21;refine zzM (HS.out z1 (HW.out.below F1.out)) λz2 hb1=>?_;have F2:=hid (F1.out.trans (hb1.mono F1.out.size));clear hb1;go_wp21;go_ret;exact⟨rfl,F2.out⟩
    ·go_wp21
     refine zzM (HA.out y8 (HW.out.below E9.out)) λz1 hb1=>?_;have F1:=hid (E9.out.trans (hb1.mono E9.out.size));clear hb1;go_wp21;refine zzM (HS.out z1 (HW.out.below F1.out)) λz2 hb1=>?_;have F2:=hid (F1.out.trans (hb1.mono F1.out.size));clear hb1;go_wp21;go_ret;exact⟨rfl,F2.out⟩
def floT (c:Rat) (s N:Nat):Int:=if c.num<0 then-((s/c.den+(if s*s=N/\s%c.den=0 then 0 else 1):Nat):Int) else((s/c.den:Nat):Int)
theorem z3u (x y:Nat) (hx:(zD x).length<=300) (hy:(zD y).length<=300) (hxy:(zD (x*y)).length<=300) (w:zA) (hw:Wd w):
 qJ 41 #[St (zD x),St (zD y)] w (.tuple #[St (zD (x*y)),.int .i64 0]):=by
 have hz:digs ((x:Int)*(y:Int))<=300:=by rw[<-Int.natCast_mul,zd9];exact hxy
 have:=zhk (x:Int) (y:Int) (by rw[zd9];exact hx) (by rw[zd9];exact hy) w hw;rw[zcf hz,zcg hz,<-Int.natCast_mul,Str.zad,Str.zad,Str.zad] at this;exact this
theorem zva (x y:Int) (hx:digs x<=300) (hy:digs y<=300) (hxy:digs (x+y)<=300) (w:zA) (hw:Wd w):
 qJ 44 #[St (zE x),St (zE y)] w (.tuple #[St (zE (x+y)),.int .i64 0]):=by
 have:=z1c x y hx hy w hw;rwa [zcf hxy,zcg hxy] at this
theorem z6j (x y:Int) (hx:digs x<=300) (hy:digs y<=300) (hxy:digs (x-y)<=300) (w:zA) (hw:Wd w):
 qJ 38 #[St (zE x),St (zE y)] w (.tuple #[St (zE (x-y)),.int .i64 0]):=by
 have:=z1e x y hx hy w hw;rwa [zcf hxy,zcg hxy] at this
theorem z6a (x:Int) (h0:0<(⟨(zE x).toArray⟩:ByteArray).size):((((⟨(zE x).toArray⟩:ByteArray)[0]'h0).toNat:Int)==45)=decide (x<0):=by
 obtain⟨s1,s2,s3,s4⟩:=zco (zE x) (by rcases zbg x with⟨_,e⟩|⟨_,e⟩<;>rw[e];exact zci _;simp) _ rfl;rw[s4 h0];rcases zbg x with⟨hx,e⟩|⟨hx,e⟩
 ·obtain⟨c,r,hd,hc1,hc2⟩:=dec_head x.natAbs
  rw[decide_eq_false (by omega),beq_eq_false_iff_ne];simp only[e,hd,List.head_cons];omega
 ·rw[decide_eq_true (by omega)]
  simp only[e,List.head_cons];rfl
theorem zul (c:Rat) (r ps s N:Nat) (hoc:okQ c) (hc0:c≠0) (hr:0<r) (hps:ps<=100) (hN:c.num.natAbs*c.num.natAbs*r*10^(2*ps)=N) (hl:(zD N).length<=290) (hs:s*s<=N/\N<(s+1)*(s+1)) (w:zA) (hw:Wd w):
 qJ 123 #[.agg #[St (numS c),St (zD r)],.int .i64 (ps:Int)] w (St (zE (floT c s N))):=by
 obtain⟨n,hn⟩:=zzX c.num.natAbs;have n0:0<n:=by
  have:c.num≠0:=λe=>hc0 (Rat.num_eq_zero.1 e);omega
 obtain⟨t,ht⟩:=zzX (10^(2*ps));have t0:0<t:=by rw[ht];exact Nat.pos_of_ne_zero (by simp)
 rw[<-hn,<-ht] at hN;have le1:n<=n*n:=Nat.le_mul_self n;have le2:n*n<=n*n*r:=Nat.le_mul_of_pos_right _ hr;have le3:n*n*r<=n*n*r*t:=Nat.le_mul_of_pos_right _ t0;have le4:r<=n*n*r:=Nat.le_mul_of_pos_left _ (Nat.mul_pos n0 n0);have le5:t<=n*n*r*t:=Nat.le_mul_of_pos_left _ (Nat.mul_pos (Nat.mul_pos n0 n0) hr);rw[hN] at le3 le5;have len:∀{m:Nat},m<=N->(zD m).length<=300:=λh=>by have:=zt9 h;omega
 have hsN:s<=N:=z6f hs.1;have hsd:=Nat.div_le_self s c.den;have hN200:N<10^290:=(zaf N 290 (by omega)).1 hl;have p1:(10:Nat)^290+1<10^291:=by decide+kernel
 have dlen:∀z:Int,z.natAbs<=N+1->digs z<=300:=λz hz=>by
  have:=(zaf z.natAbs 291 (by omega)).2 (by omega);unfold digs;omega
 have hneg:∀k:Nat,k<=N+1->((0:Int)-(k:Int)).natAbs<=N+1:=λk h=>by omega
 have hpos:∀k:Nat,k<=N->((k:Int)+1).natAbs<=N+1:=λk h=>by omega
 have z48:zE 0=[48]:=zb9;have z49:zE 1=[49]:=by rw[show(1:Int)=((1:Nat):Int) from rfl,Str.zad,zae (by omega)];rfl
 have hdl:(zD c.den).length<=300:=hoc.2;have hrep:=λW=>Tryz.strings_Repeat ⟨#[48]⟩ (2*ps) W (by omega) (by show 1*(2*ps)<=_;omega);have hi0:0<(⟨(zE c.num).toArray⟩:ByteArray).size:=(zco (zE c.num) (by rcases zbg c.num with⟨_,e⟩|⟨_,e⟩<;>rw[e];exact zci _;simp) _ rfl).2.1
 refine z3j (numS c) (zD r) (zD c.den) (zD (n*n)) (zD (n*n*r)) (zD t) (zD N) (zD s) (zD (s/c.den)) (zD (s%c.den)) (zE (floT c s N)) ⟨(zE c.num).toArray⟩ ⟨(zD (s*s)).toArray⟩ ⟨(Lib.repeatL [48] (2*ps)).toArray⟩ (by show(Lib.repeatL [48] (2*ps)).toArray.size<=1000;rw[zhy];simp;omega) ps hps hi0 (decide (c.num<0)) (z6a c.num hi0)
  (hid λW hW=>zk5 c hoc W hW) (hid λW hW=>?_) (hid λW hW=>z3u _ _ (len (by omega)) (len (by omega)) (len le3) W hW) (hid λW=>?_) (hid ?_) (hid λW hW=>?_) (hid λW hW=>znq N s hs hl W hW) (hid λW hW=>zzn s c.den c.den_pos (len hsN) hdl W hW)
  (λh=>?_) (hid λ_ W hW=>z3u _ _ (len hsN) (len hsN) (len hs.1) W hW) (hid λh=>?_) w (hid hw)
 ·have hz:digs (c.num*c.num)<=300:=dlen _ (by rw[yK,<-hn];omega)
  have:=zhk c.num c.num hoc.1 hoc.1 W hW;rw[zcf hz,zcg hz,<-Int.natAbs_mul_self,Str.zad,<-hn] at this;exact this
 ·have:=hrep W
  exact this
 ·rw[ht,z13,zhy]
  exact z7h [49] (List.replicate (2*ps) 48)
 ·have:=z3u (n*n*r) t (len le3) (len le5) (len (by omega)) W hW
  rw[hN] at this;exact this
 ·have h':¬c.num<0:=by simpa using h
  unfold floT;rw[if_neg h',Str.zad]
 ·have h':c.num<0:=by simpa using h
  have hN0:(zD (s*s)).toArray.toList=zD (s*s):=by simp
  by_cases e:s*s=N/\s%c.den=0
  ·left
   refine⟨by rw[ByteArray.toList_eq,e.1];simp,by rw[e.2,zae (by omega)];rfl,λW hW=>?_⟩;have:=z6j 0 ((s/c.den:Nat):Int) (by rw[show(0:Int)=((0:Nat):Int) from rfl];exact dlen _ (by omega)) (dlen _ (by rw[Int.natAbs_natCast];omega)) (dlen _ (hneg _ (by omega))) W hW;rw[z48,Str.zad] at this;unfold floT;rw[if_pos h',if_pos e,Nat.add_zero,<-Int.zero_sub];exact this
  ·right
   refine⟨?_,zD (s/c.den+1),λW hW=>?_,λW hW=>?_⟩
   ·by_cases e1:s*s=N
    ·right
     have e2:s%c.den≠0:=λk=>e ⟨e1,k⟩;rw[beq_eq_false_iff_ne,<-z48,<-Str.zad];exact λk=>e2 (by have:=zdo k;omega)
    ·left
     rw[ByteArray.toList_eq,beq_eq_false_iff_ne,hN0,<-Str.zad,<-Str.zad];exact λk=>e1 (by have:=zdo k;omega)
   ·have:=zva ((s/c.den:Nat):Int) 1 (dlen _ (by rw[Int.natAbs_natCast];omega)) (dlen _ (by show(1:Nat)<=_;omega)) (dlen _ (hpos _ (by omega))) W hW
    rw[z49,show((s/c.den:Nat):Int)+1=((s/c.den+1:Nat):Int) by omega,Str.zad,Str.zad] at this;exact this
   ·have:=z6j 0 ((s/c.den+1:Nat):Int) (by rw[show(0:Int)=((0:Nat):Int) from rfl];exact dlen _ (by omega)) (dlen _ (by rw[Int.natAbs_natCast];omega)) (dlen _ (hneg _ (by omega))) W hW
    rw[z48,Str.zad] at this;unfold floT;rw[if_pos h',if_neg e,<-Int.zero_sub];exact this
def zap (n k:Nat) (z:Int):Int:=if 0<z then 1 else if z+n<0\/(z+n=0/\k=2) then-1 else 0
def sgnP (n:Nat) (Z:Nat->Int):Int:=if zap n 0 (Z 0)≠0 then zap n 0 (Z 0) else if zap n 1 (Z 1)≠0 then zap n 1 (Z 1) else zap n 2 (Z 2)
theorem zhp {n:Nat} {Z:Nat->Int}:∀{k:Nat},k<3->(∀j,j<k->zap n j (Z j)=0)->zap n k (Z k)≠0->sgnP n Z=zap n k (Z k)
 |0,_,_,h=>by unfold sgnP;rw[if_pos h]
 |1,_,h0,h=>by unfold sgnP;rw[if_neg (by simp[h0 0 (by omega)]),if_pos h]
 |2,_,h0,_=>by unfold sgnP;rw[if_neg (by simp[h0 0 (by omega)]),if_neg (by simp[h0 1 (by omega)])]
theorem znr {n:Nat} {Z:Nat->Int} (h:∀j,j<3->zap n j (Z j)=0):sgnP n Z=0:=by
 unfold sgnP;rw[if_neg (by simp[h 0 (by omega)]),if_neg (by simp[h 1 (by omega)]),h 2 (by omega)]
def errP (s:Int):Int:=if s=0 then 4 else 0
theorem zj5 (p:Option Addr) (cap n:Nat) (h0:0<n) (hn:n<=100) (X Y:Nat->List UInt8) (F Z:Nat->Nat->Int) (hZ0:Hid (∀k,Z k 0=0))
 (FL:Hid (∀k i,k<3->i<n->qK 123 #[.agg #[St (X i),St (Y i)],.int .i64 (plN k:Int)] (St (zE (F k i)))))
 (AD:Hid (∀k i,k<3->i<n->qK 44 #[St (zE (Z k i)),St (zE (F k i))] (.tuple #[St (zE (Z k (i+1))),.int .i64 0])))
 (A1:Hid (∀k j,k<3->j<n->qK 44 #[St (zE (Z k n+(j:Int))),.string ⟨#[49]⟩] (.tuple #[St (zE (Z k n+((j+1:Nat):Int))),.int .i64 0])))
 (CM:Hid (∀k j,k<3->j<=n->qK 70 #[St (zE (Z k n+(j:Int))),.string ⟨#[48]⟩] (.tuple #[.int .i64 (cmpZ (Z k n+(j:Int)) 0),.int .i64 0])))
 (w:zA) (HW:Hid (Wd w)) (HP:Hid (Spw w))
 (HT:Hid (∀i,i<n->∃b off,p=some ⟨b,off,none⟩/\b<w.heap.size/\w.cell? ⟨b,off+i*2,none⟩=some (St (X i))/\w.cell? ⟨b,off+i*2+1,none⟩=some (St (Y i)))):
 qJ 53 #[.slice p n cap] w (.tuple #[.int .i64 (sgnP n λk=>Z k n),.int .i64 (errP (sgnP n λk=>Z k n))]):=by
 obtain⟨tt,fz,hblk⟩:=HP.out.block;have hz:((n:Int)==0)=false:=by rw[beq_eq_false_iff_ne];omega
 have D0:=hid (zM w.heap.size w);go_enter Tryz.func53,Tryz.ntmps53;go_wp2_with (refine wpList_load_row rfl 170 (.global 0) rfl 0 rfl tt spV fz (.array 3 3) hblk (by kernel_rfl) rfl (by kernel_rfl) ?_);go_loopw [17] (λi wr=>∃(k:Nat),k<=3/\i=.int .i64 (k:Int)/\Hid (∀j,j<k->zap n j (Z j n)=0)/\Hid (qL w wr))
  (λi _=>3-(zL i).toNat)
 case atStart=>exact⟨0,by omega,rfl,hid (λj h=>by omega),D0⟩
 case round=>
  clear D0 hblk;obtain⟨k,hk,rfl,HU,DK⟩:=hrel;by_cases hlk:k<3
  ·have hx:=λw=>z8x k hlk w
   have HFL:=hid (λi=>FL.out k i hlk);have HAD:=hid (λi=>AD.out k i hlk);have HA1:=hid (λi=>A1.out k i hlk);have HCM:=hid (λj=>CM.out k j hlk);have hS:Value.string ⟨#[48]⟩=St (zE (Z k 0)):=by rw[hZ0.out,zb9]
   have hk3:((k:Int)+1==3)=decide (k=2):=by
    by_cases e:k=2
    ·subst e;rfl
    ·rw[decide_eq_false e,beq_eq_false_iff_ne];omega
   have hwk:IntKind.i64.wrap ((k:Int)+1)=(k:Int)+1:=zI _ (by omega);generalize plN k=pl at*
   have HK3:=hid hk3;clear hk3;go_wp21;rw[hS]
   try rw[show decide ((k:Int)<3)=true from decide_eq_true (by omega)]
   clear hS hx;go_loopw [6,23] (λv i wr=>∃(i0:Nat),i0<=n/\i=.int .i64 (i0:Int)/\v=St (zE (Z k i0))/\Hid (qL w wr))
    (λ_ i _=>n-(zL i).toNat)
   case atStart=>exact⟨0,zR _,rfl,rfl,DK⟩
   case round=>
    clear DK;obtain⟨i0,hi0,rfl,rfl,D1⟩:=hrel;by_cases hlt:i0<n
    ·obtain⟨b,off,rfl,hb,c0,c1⟩:=HT.out i0 hlt
     have t0:wr.cell? ⟨b,off+i0*2,none⟩=some (St (X i0)):=by rw[D1.out.cell (p:=⟨b,off+i0*2,none⟩) hb];exact c0
     have t1:wr.cell? ⟨b,off+i0*2+1,none⟩=some (St (Y i0)):=by rw[D1.out.cell (p:=⟨b,off+i0*2+1,none⟩) hb];exact c1
     have M1:=hid (HFL.out i0 hlt);have M2:=hid (HAD.out i0 hlt);generalize X i0=x at*
     generalize Y i0=y at*
     generalize zE (F k i0)=z at*
     generalize zE (Z k i0)=sk at*
     obtain⟨v1,hv⟩:=zzX (wr.alloc (.cells #[St x,St y] 37));have a1:qL wr v1:=by rw[hv];exact(zM _ wr).alloc (zN _) _
     have A1:v1.heap[wr.heap.size]? =some (.cells #[St x,St y] 37 (0,0)):=by rw[hv];exact zG wr _
     have k0:v1.cell? ⟨wr.heap.size,0,none⟩=some (St x):=by rw[zJ A1];rfl
     have k1:v1.cell? ⟨wr.heap.size,1,none⟩=some (St y):=by rw[zJ A1];rfl
     rw[hv] at k0 k1;have HV1:=hid hv.symm;have E1:=hid (D1.out.trans (a1.mono D1.out.size));clear hv a1 A1 c0 c1 hb;go_wp21;rw[HV1.out];clear t0 t1 k0 k1 HV1;refine zzM (M1.out v1 (HW.out.below E1.out)) λy1 hb1=>?_;have E2:=hid (E1.out.trans (hb1.mono E1.out.size));clear hb1 E1 M1;go_wp21;refine zzM (M2.out y1 (HW.out.below E2.out)) λy2 hb1=>?_;have E3:=hid (E2.out.trans (hb1.mono E2.out.size));clear hb1 E2 M2;go_wp21;go_roundw
     case rel=>exact⟨i0+1,by omega,by go_num,rfl,E3⟩
     case measure=>simp[zL];omega
    ·have hkn:i0=n:=by omega
     subst hkn;have hC0:=HCM.out 0 (zR _);rw[show Z k i0+((0:Nat):Int)=Z k i0 by omega] at hC0;have HC0:=hid hC0;clear hC0;obtain⟨T,hT⟩:=zzX ( λ(j:Nat)=>zE (Z k i0+(j:Int)):Nat->List UInt8);have hTn:St (zE (Z k i0))=St (T 0):=by rw[hT];show St (zE (Z k i0))=St (zE (Z k i0+((0:Nat):Int)));rw[show Z k i0+((0:Nat):Int)=Z k i0 by omega]
     have HTN:=hid hTn;clear hTn;have HB1:Hid (∀j,j<i0->qK 44 #[St (T j),.string ⟨#[49]⟩] (.tuple #[St (T (j+1)),.int .i64 0])):=hid (by rw[hT];exact HA1.out);have HB2:Hid (qK 70 #[St (T i0),.string ⟨#[48]⟩] (.tuple #[.int .i64 (cmpZ (Z k i0+(i0:Int)) 0),.int .i64 0])):=hid (by rw[hT];exact HCM.out i0 (zN _));clear HFL HAD HA1 HCM hT;by_cases hp:0<Z k i0
     ·have hd:decide (0<cmpZ (Z k i0) 0)=true:=by unfold cmpZ;rw[if_neg (by omega),if_pos (by omega)];rfl
      have hc1:cmpZ (Z k i0) 0=1:=by unfold cmpZ;rw[if_neg (by omega),if_pos (by omega)]
      have hs1:zap i0 k (Z k i0)=1:=by unfold zap;rw[if_pos hp]
      have hres:(sgnP i0 λk=>Z k i0)=1:=by rw[zhp hlk HU.out (by show zap i0 k (Z k i0)≠0;rw[hs1];decide)];exact hs1
      have HRES:=hid hres;rw[hc1] at HC0;generalize zE (Z k i0)=zs at*
      clear hp hd hc1 hs1 hres;go_wp21;refine zzM (HC0.out wr (HW.out.below D1.out)) λy1 hb1=>?_;have E1:=hid (D1.out.trans (hb1.mono D1.out.size));clear hb1 HC0;go_wp21;go_ret2;exact⟨by rw[HRES.out];rfl,E1.out⟩
     ·have hd:decide (0<cmpZ (Z k i0) 0)=false:=by
       unfold cmpZ;by_cases h2:Z k i0<0
       ·rw[if_pos h2];rfl
       ·rw[if_neg h2,if_neg (by omega)];rfl
      have HNP:=hid hp;clear hp;obtain⟨c,hc⟩:=zzX (cmpZ (Z k i0) 0);rw[<-hc] at hd HC0;clear hc;go_wp21;refine zzM (HC0.out wr (HW.out.below D1.out)) λy1 hb1=>?_;have E1:=hid (D1.out.trans (hb1.mono D1.out.size));clear hb1 HC0;go_wp21;rw[HTN.out];clear hd;go_loopw [6,45] (λv i wr=>∃(j:Nat),j<=i0/\i=.int .i64 (j:Int)/\v=St (T j)/\Hid (qL w wr))
       (λ_ i _=>i0-(zL i).toNat)
      case atStart=>exact⟨0,zR _,rfl,rfl,E1⟩
      case round=>
       clear E1;obtain⟨j,hj,rfl,rfl,D2⟩:=hrel;by_cases hlt:j<i0
       ·have M2:=hid (HB1.out j hlt)
        go_wp21;refine zzM (M2.out _ (HW.out.below D2.out)) λy2 hb1=>?_;have E3:=hid (D2.out.trans (hb1.mono D2.out.size));clear hb1 M2;go_wp21;go_roundw
        case rel=>exact⟨j+1,by omega,by go_num,rfl,E3⟩
        case measure=>simp[zL];omega
       ·have hji:j=i0:=by omega
        subst hji;have HC1:=HB2;clear HB2 HB1 HTN;obtain⟨z,hz⟩:=zzX (Z k j+(j:Int));rw[<-hz] at HC1;have HZ:=hid hz;clear hz;by_cases hneg:z<0
        ·have hd:decide (cmpZ z 0<0)=true:=by unfold cmpZ;rw[if_pos hneg];rfl
         have hs1:zap j k (Z k j)= -1:=by unfold zap;rw[if_neg (by have:=HNP.out;omega),if_pos (.inl (by rw[<-HZ.out];exact hneg))]
         have hres:(sgnP j λk=>Z k j)= -1:=by rw[zhp hlk HU.out (by show zap j k (Z k j)≠0;rw[hs1];decide)];exact hs1
         have HRES:=hid hres;generalize cmpZ z 0=c at*
         clear hs1 hres hneg;go_wp21;refine zzM (HC1.out _ (HW.out.below D2.out)) λy2 hb1=>?_;have E3:=hid (D2.out.trans (hb1.mono D2.out.size));clear hb1 HC1;go_wp21;go_ret2;exact⟨by rw[HRES.out];rfl,E3.out⟩
        ·have hd:decide (cmpZ z 0<0)=false:=by
          unfold cmpZ;rw[if_neg hneg];split<;>rfl
         by_cases hl:z=0/\k=2
         ·have hd2:(cmpZ z 0==0)=true:=by rw[hl.1];rfl
          have hd3:((k:Int)+1==3)=true:=by rw[HK3.out,decide_eq_true hl.2]
          have hs1:zap j k (Z k j)= -1:=by unfold zap;rw[if_neg (by have:=HNP.out;omega),if_pos (.inr ⟨by rw[<-HZ.out];exact hl.1,hl.2⟩)]
          have hres:(sgnP j λk=>Z k j)= -1:=by rw[zhp hlk HU.out (by show zap j k (Z k j)≠0;rw[hs1];decide)];exact hs1
          have HRES:=hid hres;generalize cmpZ z 0=c at*
          clear hs1 hres hneg hl;go_wp21;refine zzM (HC1.out _ (HW.out.below D2.out)) λy2 hb1=>?_;have E3:=hid (D2.out.trans (hb1.mono D2.out.size));clear hb1 HC1;go_wp21;go_ret2;exact⟨by rw[HRES.out];rfl,E3.out⟩
         ·have hs1:zap j k (Z k j)=0:=by unfold zap;rw[if_neg (by have:=HNP.out;omega),if_neg (by rw[<-HZ.out];omega)]
          have HS1:=hid hs1;have hnx:Hid (∀i,i<k+1->zap j i (Z i j)=0):=hid λi hi=>by
           by_cases e:i=k
           ·rw[e];exact HS1.out
           ·exact HU.out i (by omega)
          have hcs:(cmpZ z 0==0)=false\/((cmpZ z 0==0)=true/\((k:Int)+1==3)=false):=by
           by_cases e:z=0
           ·right
            exact⟨by rw[e];rfl,by rw[HK3.out,decide_eq_false (λh=>hl ⟨e,h⟩)]⟩
           ·left
            unfold cmpZ;rw[if_neg hneg,if_pos (by omega)];rfl
          generalize cmpZ z 0=c at*
          clear hs1 hneg hl;rcases hcs with hc|⟨hc,hc3⟩
          ·go_wp21
           refine zzM (HC1.out _ (HW.out.below D2.out)) λy2 hb1=>?_;have E3:=hid (D2.out.trans (hb1.mono D2.out.size));clear hb1 HC1;go_wp21;go_roundw
           case rel=>exact⟨k+1,by omega,by go_num,hnx,E3⟩
           case measure=>simp[zL];omega
          ·go_wp21
           refine zzM (HC1.out _ (HW.out.below D2.out)) λy2 hb1=>?_;have E3:=hid (D2.out.trans (hb1.mono D2.out.size));clear hb1 HC1;go_wp21;go_roundw
           case rel=>exact⟨k+1,by omega,by go_num,hnx,E3⟩
           case measure=>simp[zL];omega
  ·have hk3:k=3:=by omega
   subst hk3;have HRES:=hid (znr (Z:=λk=>Z k n) HU.out);go_wp21;go_ret2;exact⟨by rw[HRES.out];rfl,DK.out⟩
theorem zjn (v1 v2:Value) (sg e2:Int) (R:Value->zA->Prop) (E F:Prop) (w:zA)
 (S:Hid (zC zF 52 #[v1,v2] w λe w'=>∃q n c r,e=.returned (.tuple #[.slice q n c,.int .i64 r])/\zB w.heap.size w w'/\((r=0/\R (.slice q n c) w'/\E)\/(r=4/\F))))
 (G:Hid (∀(W:zA) (u:Value),E->qL w W->R u W->qJ 53 #[u] W (.tuple #[.int .i64 sg,.int .i64 e2]))):
 zC zF 12 #[v1,v2] w λe w'=>∃m r,e=.returned (.tuple #[.int .i64 m,.int .i64 r])/\zB w.heap.size w w'/\((r=4/\m=0/\F)\/(m=sg/\r=e2/\E)):=by
 go_enter Tryz.func12,Tryz.ntmps12;go_wp21;refine S.out.mono ?_;rintro e w1 ⟨q,n,c,r,rfl,hb1,hr⟩;have B1:=hid hb1;rcases hr with⟨rfl,hr,hE⟩|⟨rfl,hF⟩
 ·have HG:=hid (G.out w1 _ hE hb1 hr)
  have HE:=hid hE;clear hb1 hr G S hE;go_wp21;refine zzM HG.out λw2 hb2=>?_;have B2:=hid (B1.out.trans (hb2.mono B1.out.size));clear hb2;go_wp21;go_ret2;exact⟨_,_,rfl,B2.out,.inr ⟨rfl,rfl,HE.out⟩⟩
 ·have HF:=hid hF
  clear hb1 G S hF;go_wp21;go_ret2;exact⟨_,_,rfl,B1.out,.inl ⟨rfl,rfl,HF.out⟩⟩
theorem z0o (p1 p2:Option Addr) (n1 n2 c1 c2 N:Nat) (R R2:Option Addr->Nat->zA->Prop) (R3:Value->Int->zA->Prop) (w:zA)
 (B:Hid (qJ 120 #[.slice p1 n1 c1,.slice p2 n2 c2] w (.bool true)))
 (S:Hid (∀W:zA,qL w W->zC zF 121 #[.slice p2 n2 c2,.string ⟨#[45,49]⟩] W λe w'=>∃q d,e=.returned (.tuple #[.slice q n2 d,.int .i64 0])/\zB W.heap.size W w'/\R q d w'))
 (CN:Hid (∀(W:zA) (q:Option Addr) (d b:Nat),qL w W->w.heap.size<=b->(∃W0,qL w W0/\R q d W0/\zB W0.heap.size W0 W)->W.cell? ⟨b,0,none⟩=some (.slice p1 n1 c1)->W.cell? ⟨b,1,none⟩=some (.slice q n2 d)->zC zF 122 #[.slice (some ⟨b,0,none⟩) 2 2] W λe w'=>∃q' d',e=.returned (.slice q' N d')/\zB W.heap.size W w'/\R2 q' d' w'))
 (M:Hid (∀(W:zA) (q:Option Addr) (d:Nat),qL w W->R2 q d W->zC zF 11 #[.slice q N d] W λe w'=>∃q n c r,e=.returned (.tuple #[.slice q n c,.int .i64 r])/\zB W.heap.size W w'/\R3 (.slice q n c) r w')):
 zC zF 52 #[.slice p1 n1 c1,.slice p2 n2 c2] w λe w'=>∃q n c r,e=.returned (.tuple #[.slice q n c,.int .i64 r])/\zB w.heap.size w w'/\R3 (.slice q n c) r w':=by
 go_enter Tryz.func52,Tryz.ntmps52;go_wp21;refine zzM B.out λw1 hb1=>?_;have B1:=hid hb1;have HS:=hid (S.out w1 hb1);clear hb1 B S;go_wp21;refine HS.out.mono ?_;rintro e w2 ⟨q,d,rfl,hb2,hr⟩;have hb:=B1.out.trans (hb2.mono B1.out.size);obtain⟨v1,hv⟩:=zzX (w2.alloc (.cells #[.slice p1 n1 c1,.slice q n2 d] 26));have a1:qL w2 v1:=by rw[hv];exact(zM _ w2).alloc (zN _) _
 have A1:v1.heap[w2.heap.size]? =some (.cells #[.slice p1 n1 c1,.slice q n2 d] 26 (0,0)):=by rw[hv];exact zG w2 _
 have HC:=hid (CN.out v1 q d w2.heap.size (hb.trans (a1.mono hb.size)) hb.size ⟨w2,hb,hr,a1⟩ (by rw[zJ A1];rfl) (by rw[zJ A1];rfl));have HV1:=hid hv.symm;have B2:=hid (hb.trans (a1.mono hb.size));clear hv a1 A1 CN hb hb2 hr HS B1;go_wp21;rw[HV1.out];clear HV1;refine HC.out.mono ?_;rintro e w3 ⟨q2,d2,rfl,hb3,hr3⟩;have hb:=B2.out.trans (hb3.mono B2.out.size);have B3:=hid hb;have HM:=hid (M.out w3 q2 d2 hb hr3);clear hb hb3 hr3 M HC B2;go_wp21;refine HM.out.mono ?_;rintro e w4 ⟨q4,n4,d4,r4,rfl,hb4,hr4⟩;have FE:=hid (⟨B3.out.trans (hb4.mono B3.out.size),hr4⟩:qL w w4/\R3 (.slice q4 n4 d4) r4 w4);clear hb4 hr4 HM B3;go_wp21;go_ret2;exact⟨q4,n4,d4,r4,rfl,FE.out.1,FE.out.2⟩
theorem z5e (a ar b br:List UInt8) (n:Int) (CM:Hid (qK 18 #[St ar,St br] (.tuple #[.int .i64 n,.int .i64 0]))) (w:zA) (HW:Hid (Wd w)):
 qJ 51 #[.agg #[St a,St ar],.agg #[St b,St br]] w (.int .i64 n):=by
 obtain⟨v1,hv⟩:=zzX (w.alloc (.cells #[St a,St ar] 37));have a1:qL w v1:=by rw[hv];exact(zM _ w).alloc (zN _) _
 have A1:v1.heap[w.heap.size]? =some (.cells #[St a,St ar] 37 (0,0)):=by rw[hv];exact zG w _
 have s1:v1.heap.size=w.heap.size+1:=by rw[hv];simp
 obtain⟨v2,hv2⟩:=zzX (v1.alloc (.cells #[St b,St br] 37));have a2:qL v1 v2:=by rw[hv2];exact(zM _ v1).alloc (zN _) _
 have A2:v2.heap[w.heap.size+1]? =some (.cells #[St b,St br] 37 (0,0)):=by rw[hv2,<-s1];exact zG v1 _
 have A3:=zac a2 _ _ _ _ A1;have k0:v2.cell? ⟨w.heap.size,1,none⟩=some (St ar):=by rw[zJ A3];rfl
 have k1:v2.cell? ⟨w.heap.size+1,1,none⟩=some (St br):=by rw[zJ A2];rfl
 have E1:=hid (a1.trans (a2.mono a1.size));rw[hv] at hv2;rw[hv2] at k0 k1;have HV:=hid hv2.symm;clear hv hv2 a1 a2 A1 A2 A3 s1;go_enter Tryz.func51,Tryz.ntmps51;go_wp21;rw[HV.out];clear k0 k1 HV;refine zzM (CM.out v2 (HW.out.below E1.out)) λy1 hb1=>?_;have E2:=hid (E1.out.trans (hb1.mono E1.out.size));clear hb1;go_wp21;go_ret;exact⟨rfl,E2.out⟩
theorem z61 (a b c:Rat) (i j:Nat) (hi:0<i) (hj:0<j) (hij:i+j<=300) (ha:sz a i) (hb:sz b j) (h:a*b=c) (W:zA) (hW:Wd W):qJ 9 #[St (numS a),St (numS b)] W (.tuple #[St (numS c),.int .i64 0]):=by
 rw[<-h];exact zjf a b i j hi hj hij ha hb W hW
theorem zsf {a:Rat} (h:a≠0):(numS a==[48])=false:=by rw[beq_eq_false_iff_ne];exact λe=>h ((zpy a).1 e)
def strT (t:Rat×Nat):List UInt8×List UInt8:=(numS t.1,zD t.2)
theorem zi3:∀l:List (Rat×Nat),zin (l.map strT)=(l.filter λc=>!decide (c.1=0)).map strT
 |[]=>rfl
 |c::l=>by
  have ih:=zi3 l;unfold zin at ih⊢;rw[List.map_cons,List.filter_cons,List.filter_cons,ih];by_cases e:c.1=0
  ·have h1:((strT c).1==[48])=true:=by unfold strT;rw[e];simp[zie]
   simp[h1,e]
  ·have h1:((strT c).1==[48])=false:=zsf e
   simp[h1,e]
theorem zui:∀(l:List (List UInt8×List UInt8)),∀u∈zbj l,u.oneCell'=true
 |[],u,h=>by simp[zbj] at h
 |a::r,u,h=>by
  rcases List.mem_cons.1 h with rfl|h
  ·rfl
  ·rcases List.mem_cons.1 h with rfl|h
   ·rfl
   ·exact zui r u h
theorem zpa {w:zA} {base:Nat} {e:TypeId} {s:Nat} {v:Value} {n:Nat} {xs:List Value} (h:w.ownsRow base e s v n xs):∃q c,v=.slice q n c:=by
 rcases h.2 with⟨rfl,rfl⟩|⟨g,cp,cur,rfl,_⟩
 ·exact⟨none,0,rfl⟩
 ·exact⟨_,cp,rfl⟩
def catL (L:Nat->List (List UInt8×List UInt8)):Nat->List (List UInt8×List UInt8)
 |0=>[]
 |k+1=>catL L k++L k
theorem zih (L:Nat->List (List UInt8×List UInt8)) {k:Nat}:∀{m:Nat},k<=m->(catL L k).length<=(catL L m).length
 |0,h=>by rw[show k=0 by omega];exact zN _
 |m+1,h=>by
  rcases Nat.lt_or_ge m k with h1|h1
  ·obtain rfl:k=m+1:=by omega
   exact zN _
  ·have:=zih L h1
   show _<=(catL L m++L m).length;rw[zU];omega
theorem z62 (n:Nat) (h1:1<=n) (hn:n<=10000) (w:zA):
 zC zF 202 #[.slice none 0 0,.int .i64 (n:Int)] w λe w'=>∃v,e=.returned v/\w'.ownsRow w.heap.size 37 2 v 0 []/\zB w.heap.size w w':=by
 obtain⟨i0,hi,hz0,hz1,hz2⟩:=info_parts zsc;have hrz:∀ty,(Builtin.append_ #[26,3] ty #[.slice none 0 0,.int .i64 (n:Int)]).run zF w=
  .ok (.slice (some ⟨w.heap.size,0,none⟩) n (grownCap w n 0 37)) (w.drew.alloc (.cells (#[]++Builtin.zeroCells (Value.agg #[St [],St []]).cells n++Builtin.zeroCells (Value.agg #[St [],St []]).cells (grownCap w n 0 37-n)) 37)):=λty=>by
  have h:=Lib.run_append_grow_zeros w 26 3 ty 37 i0 (.agg #[St [],St []]) .i64 .i64 Tryz.underlying26 Tryz.underlying3 hi hz0 none 0 0 [] (run_firstCells_none w.drew i0.size 0 0 0) n h1 (by omega) (by omega) (by omega) (by rw[hz2];omega) (by rw[hz2];exact growslice_fits (by omega) (by omega));simpa using h
 have hGn:n<=grownCap w n 0 37:=grownCap_ge w _ _ _;have hGm:grownCap w n 0 37<=maxLen:=grownCap_le_maxLen w n 0 37 (by unfold maxLen;omega);generalize grownCap w n 0 37=G at*
 have HR:=hid (hrz);clear hrz;have HG:=hid (⟨hGn,hGm⟩:n<=G/\G<=maxLen);have hG63:G<=9223372036854775807:=by unfold maxLen at hGm;omega
 clear hi hz0 hz1 hz2 hGm;have hn0:¬(n:Int)<0:=by omega
 have hn1:(0:Int)<n:=by omega
 have hw1:IntKind.i64.wrap (n:Int)=n:=zI _ ⟨by omega,by omega⟩;go_enter Tryz.func202,Tryz.ntmps202;go_wp2_with (at_builtin;refine Lib.wpList_append_run _ rfl _ _ _ _ rfl _ _ rfl rfl _ _ (HR.out _) ?_);go_ret;refine⟨_,rfl,⟨rfl,.inr ⟨w.heap.size,G,_,rfl,zN _,zG w _,zR _,HG.out.2,?_,by simp⟩⟩,((zM _ w).alloc (zN _) _).drew⟩;have:=HG.out.1;rw[Array.size_append,size_zeroCells,size_zeroCells];show n*2+(G-n)*2=G*2;omega
theorem z5g (b m:Nat) (p:Nat->Option Addr) (c:Nat->Nat) (L:Nat->List (List UInt8×List UInt8)) (hm:m<=4096) (hN:(catL L m).length<=4096) (w:zA)
 (GR:Hid (∀W:zA,zC zF 202 #[.slice none 0 0,.int .i64 ((catL L m).length:Int)] W λe w'=>∃v,e=.returned v/\w'.ownsRow W.heap.size 37 2 v 0 []/\zB W.heap.size W w'))
 (HX:Hid (∀k,k<m->(p k=none/\(L k).length=0/\c k=0)\/∃g o,p k=some ⟨g,o,none⟩/\∀W:zA,qL w W->∀j u,(zbj (L k))[j]? =some u->W.cell? ⟨g,o+j,none⟩=some u))
 (HA:Hid (∀W:zA,qL w W->∀k,k<m->W.cell? ⟨b,k,none⟩=some (.slice (p k) (L k).length (c k)))):
 zC zF 122 #[.slice (some ⟨b,0,none⟩) m m] w λe w'=>∃v,e=.returned v/\w'.ownsRow w.heap.size 37 2 v (catL L m).length (zbj (catL L m))/\zB w.heap.size w w':=by
 obtain⟨N,hNe⟩:=zzX ((catL L m).length);rw[<-hNe] at GR hN⊢;have HN:=hid hNe;clear hNe;go_enter Tryz.func122,Tryz.ntmps122;go_wp21;go_loopw [11,3] (λi z wr=>∃(k:Nat),k<=m/\i=.int .i64 (k:Int)/\z=.int .i64 ((catL L k).length:Int)/\Hid (wr=w))
  (λi _ _=>m-(zL i).toNat)
 case atStart=>exact⟨0,zR _,rfl,rfl,hid rfl⟩
 case round=>
  obtain⟨k,hk,rfl,rfl,hB⟩:=hrel;obtain rfl:=hB.out.symm;clear hB;by_cases hlt:k<m
  ·have a0:=HA.out w (zM _ _) k hlt
   have hxy:(catL L k).length+(L k).length=(catL L (k+1)).length:=(zU ..).symm;have hle:(catL L (k+1)).length<=4096:=zO (zih L hlt) (by rw[<-HN.out];exact hN);obtain⟨z,hz⟩:=zzX ((catL L (k+1)).length);rw[<-hz] at hxy hle;have HZ:=hid hz;clear hz;generalize (catL L k).length=x at*
   generalize (L k).length=y at*
   generalize p k=pk at a0;generalize c k=ck at a0;have hw1:IntKind.i64.wrap ((x:Int)+(y:Int))=(z:Int):=by rw[zI _ ⟨by omega,by omega⟩];omega
   have hn0:¬(z:Int)<0:=by omega
   clear hxy hle;go_wp21;go_roundw
   case rel=>exact⟨k+1,by omega,by go_num,by rw[HZ.out],hid trivial⟩
   case measure=>simp[zL];omega
  ·have hkm:k=m:=by omega
   subst hkm;rw[<-HN.out];go_wp21;refine(GR.out w).mono ?_;rintro e w1 ⟨v,rfl,hown,hb1⟩;obtain⟨q0,c0,rfl⟩:=zpa hown;have HO1:=hid hown;have HB1:=hid hb1;clear hown hb1 GR;go_wp21;go_loopw [27,6] (λi v wr=>∃(j:Nat) (q:Option Addr) (c':Nat),j<=k/\i=.int .i64 (j:Int)/\v=.slice q (catL L j).length c'/\Hid (qL w wr)/\Hid (wr.ownsRow w.heap.size 37 2 (.slice q (catL L j).length c') (catL L j).length (zbj (catL L j))))
    (λi _ _=>k-(zL i).toNat)
   case atStart=>exact⟨0,q0,c0,zR _,rfl,rfl,HB1,HO1⟩
   case round=>
    obtain⟨j,q,c',hj,rfl,rfl,hB,hO⟩:=hrel;by_cases hjk:j<k
    ·have a0:=HA.out wr hB.out j hjk
     obtain⟨i0,hi,hz0,hz1,hz2⟩:=info_parts zsc;have HD:=hid (⟨hi,hz0,hz1,hz2⟩:_/\_/\_/\_);have HS:=hid (show(catL L j).length+(L j).length=(catL L (j+1)).length from(zU ..).symm);have HL:=hid (show(catL L j).length+(L j).length<=4096 by rw[HS.out];exact zO (zih L hjk) (by rw[<-HN.out];exact hN));clear hi hz0 hz1 hz2;rcases HX.out j hjk with⟨e1,e2,e3⟩|⟨g,o,e1,hc⟩
     ·rw[e1,e2,e3] at a0
      have HE:=hid (show catL L (j+1)=catL L j by show catL L j++L j=_;rw[List.length_eq_zero_iff.1 e2,List.append_nil]);clear e1 e2 e3;go_wp2_with (at_builtin;refine wpList_append_own_none rfl _ _ 26 rfl w.heap.size 37 i0 2 Tryz.underlying26 HD.out.1 (.slice q (catL L j).length c') (catL L j).length (zbj (catL L j)) rfl hO.out rfl ?_);go_wp21;go_roundw
      case rel=>exact⟨j+1,q,c',by omega,by go_num,by rw[HE.out],hB,by rw[HE.out];exact hO⟩
      case measure=>simp[zL];omega
     ·rw[e1] at a0
      have HN0:=hid (show ∀i u,(zbj (L j))[i]? =some u->wr.cell? ((⟨g,o,none⟩:Addr).add i)=some u from λi u hu=>by
       have ea:(⟨g,o,none⟩:Addr).add i=⟨g,o+i,none⟩:=by unfold Addr.add;split<;>simp_all
       rw[ea];exact hc wr hB.out _ _ hu)
      clear e1 hc;go_wp2_with (at_builtin;refine wpList_append_own_at _ rfl _ _ 26 rfl w.heap.size 37 i0 (.agg #[St [],St []]) 2 32 Tryz.underlying26 HD.out.1 HD.out.2.1 HD.out.2.2.1 HD.out.2.2.2 rfl (by decide) (.slice q (catL L j).length c') (catL L j).length (zbj (catL L j)) rfl hO.out ⟨g,o,none⟩ (L j).length (c j) (zbj (L j)) rfl (by rw[zn8]) HN0.out (zui _) (by have:=HL.out;unfold maxLen;omega) (by have:=HL.out;omega) hB.out.size ?_);intro v' w2 hown' hgrow hnil hat
      obtain⟨q',c3,rfl⟩:=zpa hown';have HB2:=hid (hB.out.grown hgrow hB.out.size (λg e=>(hO.out.lt g e).1));have HO2:=hid (show w2.ownsRow w.heap.size 37 2 (.slice q' (catL L (j+1)).length c3) (catL L (j+1)).length (zbj (catL L (j+1))) by
       rw[<-HS.out,show catL L (j+1)=catL L j++L j from rfl,zjb];exact hown')
      clear hown' hgrow hnil hat
      go_wp21;go_roundw
      case rel=>exact⟨j+1,q',c3,by omega,by go_num,by rw[<-HS.out],HB2,HO2⟩
      case measure=>simp[zL];omega
    ·have hjk2:j=k:=by omega
     subst hjk2;go_wp21;go_ret;refine⟨_,rfl,?_,hB.out⟩;rw[HN.out];exact hO.out
theorem zl9 (w:zA):
 zC zF 202 #[.slice none 0 0,.int .i64 ((0:Nat):Int)] w λe w'=>∃v,e=.returned v/\w'.ownsRow w.heap.size 37 2 v 0 []/\zB w.heap.size w w':=by
 go_enter Tryz.func202,Tryz.ntmps202;go_wp21;go_ret;exact⟨_,rfl,World.ownsRow_nil _ _ _ _,zM _ _⟩
theorem zgi (v f:Value) (w:zA):
 zC zF 192 #[v,.int .i64 0,.int .i64 ((0:Nat):Int),f] w λe w'=>(∃u,e=.returned u)/\zB w.heap.size w w':=by
 go_enter Tryz.func192,Tryz.ntmps192;go_wp21;refine wp_loop_rounds 1 ?_;rw[rounds_succ];go_wp21;go_end0;exact⟨⟨_,rfl⟩,zM _ _⟩
def SdL (v:Value) (l:List (Rat×Nat)) (W:zA):Prop:=
 (v=.slice none 0 0/\l=[])\/∃b off cap,v=.slice (some ⟨b,off,none⟩) l.length cap/\l.length<=cap/\b<W.heap.size/\
   ∀i t,l[i]? =some t->W.cell? ⟨b,off+i*2,none⟩=some (St (numS t.1))/\W.cell? ⟨b,off+i*2+1,none⟩=some (St (zD t.2))
theorem SdL.below {v:Value} {l:List (Rat×Nat)} {W W':zA} (h:SdL v l W) (hb:qL W W'):SdL v l W':=by
 rcases h with h|⟨b,off,cap,e,hc,hl,hx⟩
 ·exact .inl h
 ·exact .inr ⟨b,off,cap,e,hc,Nat.lt_of_lt_of_le hl hb.size,λi t ht=>⟨zai hb (hx i t ht).1,zai hb (hx i t ht).2⟩⟩
theorem SdL.slice {v:Value} {l:List (Rat×Nat)} {W:zA} (h:SdL v l W):∃p cap,v=.slice p l.length cap/\l.length<=cap/\∀i t,l[i]? =some t->∃b off,p=some ⟨b,off,none⟩/\b<W.heap.size/\W.cell? ⟨b,off+i*2,none⟩=some (St (numS t.1))/\W.cell? ⟨b,off+i*2+1,none⟩=some (St (zD t.2)):=by
 rcases h with⟨rfl,rfl⟩|⟨b,off,cap,e,hc,hl,hx⟩
 ·exact⟨none,0,rfl,zN _,λi t ht=>by simp at ht⟩
 ·exact⟨_,cap,e,hc,λi t ht=>⟨b,off,rfl,hl,hx i t ht⟩⟩
theorem SdL.own {B n c:Nat} {q:Option Addr} {l:List (Rat×Nat)} {W:zA} (h:W.ownsRow B 37 2 (.slice q n c) n (zbj (l.map strT))) (hn:n=l.length):SdL (.slice q n c) l W:=by
 subst hn;rcases h.2 with⟨e,e0⟩|⟨g,cp,cur,e,hg1,hg2,hnc,_⟩
 ·injection e with e1 e2 e3
  subst e1;subst e3;exact .inl ⟨by rw[e0],List.length_eq_zero_iff.1 e0⟩
 ·have hcap:l.length<=c:=by injection e with e1 e2 e3;omega
  injection e with e1 e2 e3;subst e1;refine .inr ⟨g,0,c,rfl,hcap,(Array.getElem?_eq_some_iff.1 hg2).1,λi t ht=>?_⟩;have hm:(l.map strT)[i]? =some (strT t):=by rw[List.getElem?_map,ht];rfl
  obtain⟨k0,k1⟩:=zpb _ i _ hm;obtain⟨g',c',e', -,hx⟩:=zye h (by have:=(List.getElem?_eq_some_iff.1 ht).1;omega);injection e' with e1' _ _;injection e1' with e1';cases e1';rw[Nat.zero_add];exact⟨hx _ _ k0,hx _ _ k1⟩
def incR (l:List (Rat×Nat)):Prop:=∀(i:Nat) (t u:Rat×Nat),l[i]? =some t->l[i+1]? =some u->t.2<u.2
structure SdOk (l:List (Rat×Nat)) (d:Nat:=20):Prop where
 len:l.length<=12
 trm:∀t∈l,TrmR t.1 t.2 d
 inc:incR l
 apt:∀(i k:Nat) (t u:Rat×Nat),i≠k->l[i]? =some t->l[k]? =some u->z5c (u.2:Rat) (t.2:Rat)=false
theorem zbh (v:Value) (l:List (Rat×Nat)) {d:Nat} (hl:SdOk l d) (w:zA) (hw:Wd w) (hp:Pw w) (hs:SdL v l w) (hd:d<=40:=by omega):
 qJ 64 #[v] w (.int .i64 0):=by
 obtain⟨p,cap,rfl,hc,hx⟩:=hs.slice;have at_:∀i,i<l.length->∃t,l[i]? =some t:=λi hi=>⟨_,yB hi⟩;have hg:∀(i:Nat) (t:Rat×Nat),l[i]? =some t->l[i]?.getD (1,1)=t:=λi t h=>by rw[h];rfl
 refine zos p cap l.length (λi=>(l[i]?.getD (1,1)).1) (λi=>(l[i]?.getD (1,1)).2) ⟨by have:=hl.len;omega,λi hi=>?_,λi hi=>?_,λi k hik hk=>?_⟩ hc w hw hp λi hi=>?_
 ·obtain⟨t,ht⟩:=at_ i hi
  rw[hg i t ht];exact hl.trm t (List.mem_of_getElem? ht)
 ·obtain⟨t,ht⟩:=at_ i (by omega)
  obtain⟨u,hu⟩:=at_ (i+1) hi;rw[hg i t ht,hg _ u hu];exact hl.inc i t u ht hu
 ·obtain⟨t,ht⟩:=at_ i (by omega)
  obtain⟨u,hu⟩:=at_ k hk;rw[hg i t ht,hg _ u hu];exact hl.apt i k t u (by omega) ht hu
 ·obtain⟨t,ht⟩:=at_ i hi
  obtain⟨b,off,e,_,c0,c1⟩:=hx i t ht;simp only[hg i t ht];exact⟨b,off,e,c0,c1⟩
theorem zj8 (b:Nat) (v1 v2:Value) (l1 l2:List (Rat×Nat)) (hN:l1.length+l2.length<=4096) (w:zA) (h1:SdL v1 l1 w) (h2:SdL v2 l2 w) (k0:w.cell? ⟨b,0,none⟩=some v1) (k1:w.cell? ⟨b,1,none⟩=some v2):
 zC zF 122 #[.slice (some ⟨b,0,none⟩) 2 2] w λe w'=>∃v,e=.returned v/\zB w.heap.size w w'/\SdL v (l1++l2) w':=by
 have gr:∀n:Nat,n<=4096->∀W:zA,zC zF 202 #[.slice none 0 0,.int .i64 (n:Int)] W λe w'=>∃v,e=.returned v/\w'.ownsRow W.heap.size 37 2 v 0 []/\zB W.heap.size W w':=λn hn W=>by
  rcases Nat.eq_zero_or_pos n with rfl|h
  ·exact zl9 W
  ·exact z62 n h (by omega) W
 have row:∀(g off:Nat) (l:List (Rat×Nat)),(∀i t,l[i]? =some t->w.cell? ⟨g,off+i*2,none⟩=some (St (numS t.1))/\w.cell? ⟨g,off+i*2+1,none⟩=some (St (zD t.2)))->∀W:zA,qL w W->∀j u,(zbj (l.map strT))[j]? =some u->W.cell? ⟨g,off+j,none⟩=some u:=λg off l h W hW j u hu=>by
  have hjl:j<(l.map strT).length*2:=by have:=(List.getElem?_eq_some_iff.1 hu).1;rwa [zn8] at this
  rw[zV] at hjl;obtain⟨t,ht⟩:∃t,l[j/2]? =some t:=⟨_,yB (by omega)⟩;have hm:(l.map strT)[j/2]? =some (strT t):=by rw[List.getElem?_map,ht];rfl
  obtain⟨f0,f1⟩:=zpb _ _ _ hm;obtain⟨c0,c1⟩:=h _ t ht;rcases Nat.mod_two_eq_zero_or_one j with e|e
  ·have ej:j=j/2*2:=by omega
   rw[ej] at hu;rw[hu] at f0;injection f0 with f0;rw[f0,ej];exact zai hW c0
  ·have ej:j=j/2*2+1:=by omega
   rw[ej] at hu;rw[hu] at f1;injection f1 with f1;rw[f1,ej,<-Nat.add_assoc];exact zai hW c1
 have src:∀{v:Value} {l:List (Rat×Nat)},SdL v l w->∃p c,v=.slice p (l.map strT).length c/\((p=none/\(l.map strT).length=0/\c=0)\/∃g o,p=some ⟨g,o,none⟩/\∀W:zA,qL w W->∀j u,(zbj (l.map strT))[j]? =some u->W.cell? ⟨g,o+j,none⟩=some u):=λh=>by
  rcases h with⟨rfl,rfl⟩|⟨g,o,c,rfl,_,_,hx⟩
  ·exact⟨none,0,rfl,.inl ⟨rfl,rfl,rfl⟩⟩
  ·exact⟨_,c,by rw[zV],.inr ⟨g,o,rfl,row g o _ hx⟩⟩
 obtain⟨p1,c1,rfl,g1⟩:=src h1;obtain⟨p2,c2,rfl,g2⟩:=src h2;have hc:catL (λk=>if k=0 then l1.map strT else l2.map strT) 2=(l1++l2).map strT:=by rw[List.map_append];rfl
 refine(z5g b 2 (λk=>if k=0 then p1 else p2) (λk=>if k=0 then c1 else c2) (λk=>if k=0 then l1.map strT else l2.map strT) (by omega) (by rw[hc];simpa using hN) w (hid (gr _ (by rw[hc];simpa using hN))) (hid λk hk=>?_) (hid λW hW k hk=>?_)).mono λe w' ⟨v,he,ho,hb⟩=>?_
 ·match k,hk with
  |0,_=>exact g1
  |1,_=>exact g2
 ·match k,hk with
  |0,_=>exact zai hW k0
  |1,_=>exact zai hW k1
 ·obtain⟨q,c,rfl⟩:=zpa ho
  rw[hc] at ho;rw[hc] at he;exact⟨_,he,hb,SdL.own ho (by simp)⟩
def sclL (l:List (Rat×Nat)) (c:Rat):List (Rat×Nat):=l.map λt=>(t.1*c,t.2)
theorem zkb (v:Value) (l:List (Rat×Nat)) (c:Rat) (hn:l.length<=256) (hs:∀t∈l,sz t.1 150) (hc:sz c 150) (w:zA) (HW:Hid (∀W,qL w W->Wd W)) (h:SdL v l w):
 zC zF 121 #[v,St (numS c)] w λe w'=>∃v',e=.returned (.tuple #[v',.int .i64 0])/\zB w.heap.size w w'/\SdL v' (sclL l c) w':=by
 obtain⟨p,cap,rfl, -,hx⟩:=h.slice;let X:Nat->List UInt8:=λi=>numS ((l[i]?.getD (1,1)).1);let Y:Nat->List UInt8:=λi=>zD ((l[i]?.getD (1,1)).2);let C:Nat->List UInt8:=λi=>numS ((l[i]?.getD (1,1)).1*c);have at_:∀i,i<l.length->∃t,l[i]? =some t:=λi hi=>⟨_,yB hi⟩;have hX:∀(i:Nat) (t:Rat×Nat),l[i]? =some t->X i=numS t.1/\Y i=zD t.2/\C i=numS (t.1*c):=λi t h=>⟨by show numS ((l[i]?.getD (1,1)).1)=_;rw[h];rfl,by show zD ((l[i]?.getD (1,1)).2)=_;rw[h];rfl,by show numS ((l[i]?.getD (1,1)).1*c)=_;rw[h];rfl⟩;have hk:∀k,k<=l.length->scK C Y k=((sclL l c).take k).map strT:=by
  intro k
  induction k with
  |zero=>intro _;rfl
  |succ k ih=>
   intro hk;obtain⟨t,ht⟩:=at_ k (by omega);have e:(sclL l c)[k]? =some (t.1*c,t.2):=by unfold sclL;rw[List.getElem?_map,ht];rfl
   show scK C Y k++[(C k,Y k)]=_;rw[ih (by omega),(hX k t ht).2.1,(hX k t ht).2.2,List.take_add_one,e,List.map_append];rfl
 refine(z6y p cap l.length X Y C (numS c) hn w HW (hid λi hi W hW=>?_) (hid λi hi=>?_)).mono λe w' ⟨q,d,e1,hb,ho⟩=>⟨_,e1,hb,?_⟩
 ·obtain⟨t,ht⟩:=at_ i hi
  rw[(hX i t ht).1,(hX i t ht).2.2];exact zjf t.1 c 150 150 (by omega) (by omega) (by omega) (hs t (List.mem_of_getElem? ht)) hc W hW
 ·obtain⟨t,ht⟩:=at_ i hi
  rw[(hX i t ht).1,(hX i t ht).2.1];exact hx i t ht
 ·rw[hk _ (zN _)] at ho
  rw[List.take_of_length_le (by simp[sclL])] at ho;exact SdL.own ho (by simp[sclL])
end
section
open Go.RowKit Go.Shelf Lib Str Limb
def rt (q:Rat):Rat:=((isq q.num.natAbs:Nat):Rat)/((isq q.den:Nat):Rat)
theorem z1p (m:Nat):isq (m*m)=m:=by
 obtain⟨h1,h2⟩:=zv0 (m*m);have a:isq (m*m)<=m:=Nat.mul_self_le_mul_self_iff.1 h1;have b:m<isq (m*m)+1:=Nat.mul_self_lt_mul_self_iff.1 h2;omega
theorem z32 (x:Rat):(x*x).num=x.num*x.num/\(x*x).den=x.den*x.den:=by
 have c:Nat.Coprime (x.num*x.num).natAbs (x.den*x.den):=by
  rw[yK];exact Nat.Coprime.mul_left (Nat.Coprime.mul_right x.reduced x.reduced) (Nat.Coprime.mul_right x.reduced x.reduced)
 have nz:x.den*x.den≠0:=Nat.mul_ne_zero x.den_nz x.den_nz;have e:(⟨x.num*x.num,x.den*x.den,nz,c⟩:Rat)=x*x:=by
  rw[Rat.mk_eq_normalize,Rat.mul_def]
 rw[<-e];exact⟨rfl,rfl⟩
theorem z2m (q:Rat) (h:0<q):((q.num.natAbs:Nat):Rat)/((q.den:Nat):Rat)=q:=by
 have h1:0<=q.num:=Rat.num_nonneg.2 (Rat.le_of_lt h);have h2:((q.num.natAbs:Nat):Rat)=((q.num:Int):Rat):=by
  have:((q.num.natAbs:Nat):Int)=q.num:=Int.natAbs_of_nonneg h1;exact_mod_cast congrArg (Int.cast (R:=Rat)) this
 rw[h2];have:=Rat.num_divInt_den q;rw[Rat.divInt_eq_div] at this;exact this
theorem zxd {p q:Rat} (h:0<p/q) (ha:z5c p q=true):rt (p/q)*rt (p/q)=p/q:=by
 unfold z5c at ha;rw[Bool.and_eq_true,decide_eq_true_eq,decide_eq_true_eq] at ha;have e:=z2m _ h;have d0:((p/q).den:Rat)≠0:=by
  have:=(p/q).den_nz;exact_mod_cast this
 unfold rt;have n1:((isq (p/q).num.natAbs:Nat):Rat)*((isq (p/q).num.natAbs:Nat):Rat)=(((p/q).num.natAbs:Nat):Rat):=by exact_mod_cast congrArg (Nat.cast (R:=Rat)) ha.1
 have n2:((isq (p/q).den:Nat):Rat)*((isq (p/q).den:Nat):Rat)=(((p/q).den:Nat):Rat):=by exact_mod_cast congrArg (Nat.cast (R:=Rat)) ha.2
 generalize ((isq (p/q).num.natAbs:Nat):Rat)=a at*
 generalize ((isq (p/q).den:Nat):Rat)=b at*
 have b0:b≠0:=λk=>d0 (by rw[<-n2,k,Rat.mul_zero]);rw[<-n1,<-n2] at e;rw[<-e];grind
theorem zxg {p q x:Rat} (h:x*x=p/q):z5c p q=true:=by
 unfold z5c;obtain⟨h1,h2⟩:=z32 x;rw[<-h,h1,h2,yK,z1p,z1p];simp
theorem div_pos {p q:Rat} (hp:0<p) (hq:0<q):0<p/q:=by
 rw[Rat.div_def];exact Rat.mul_pos hp (Rat.inv_pos.2 hq)
theorem zx1 {p:Rat} (hp:0<p):z5c p p=true:=zxg (x:=1) (by grind)
theorem zu5 {p q:Rat} (hp:0<p) (hq:0<q) (h:z5c p q=true):z5c q p=true:=by
 have:=zxd (div_pos hp hq) h;have h0:=div_pos hp hq;generalize rt (p/q)=x at this;have x0:x≠0:=λk=>by rw[k] at this;grind
 exact zxg (x:=1/x) (by grind)
theorem zw8 {p q r:Rat} (hp:0<p) (hq:0<q) (hr:0<r) (h:z5c p q=true) (k:z5c q r=true):z5c p r=true:=by
 have h1:=zxd (div_pos hp hq) h;have h2:=zxd (div_pos hq hr) k;generalize rt (p/q)=x at h1;generalize rt (q/r)=y at h2;exact zxg (x:=x*y) (by grind)
def plG (c t:Rat×Nat):Rat×Nat:=
 if t.2<c.2 then(t.1+c.1*rt ((c.2:Rat)/(t.2:Rat)),t.2) else(c.1+t.1*rt ((t.2:Rat)/(c.2:Rat)),c.2)
def gaG:List (Rat×Nat)->Rat×Nat->List (Rat×Nat)
 |[],t=>[t]
 |c::l,t=>if z5c (t.2:Rat) (c.2:Rat)=true then plG c t::l else c::gaG l t
theorem zm7 (t:Rat×Nat):∀l:List (Rat×Nat),((∀c∈l,z5c (t.2:Rat) (c.2:Rat)=false)/\gaG l t=l++[t])\/
 ∃j c,l[j]? =some c/\z5c (t.2:Rat) (c.2:Rat)=true/\(∀i d,i<j->l[i]? =some d->z5c (t.2:Rat) (d.2:Rat)=false)/\gaG l t=l.set j (plG c t)
 |[]=>.inl ⟨λc h=>(by cases h),rfl⟩
 |c::l=>by
  cases e:z5c (t.2:Rat) (c.2:Rat)
  ·rcases zm7 t l with⟨h1,h2⟩|⟨j,d,h1,h2,h3,h4⟩
   ·left
    refine⟨λd hd=>?_,by simp[gaG,e,h2]⟩;rcases List.mem_cons.1 hd with rfl|hd
    ·exact e
    ·exact h1 d hd
   ·right
    refine⟨j+1,d,by simpa using h1,h2,λi x hi hx=>?_,by simp[gaG,e,h4]⟩
    cases i with
    |zero=>simp at hx;subst hx;exact e
    |succ i=>exact h3 i x (by omega) (by simpa using hx)
  ·right
   exact⟨0,c,rfl,e,λi d h=>by omega,by simp[gaG,e]⟩
def grG (T:List (Rat×Nat)) (i:Nat):List (Rat×Nat):=(T.take i).foldl gaG []
theorem zr9 {T:List (Rat×Nat)} {i:Nat} {t:Rat×Nat} (h:T[i]? =some t):grG T (i+1)=gaG (grG T i) t:=by
 unfold grG;rw[List.take_add_one,h,List.foldl_append];rfl
theorem zwy {T:List (Rat×Nat)} {i:Nat} (h:T[i]? =none):grG T (i+1)=grG T i:=by
 unfold grG;rw[List.take_add_one,h];simp
theorem zuk (T:List (Rat×Nat)):grG T T.length=T.foldl gaG []:=by unfold grG;rw[List.take_length]
theorem zxh (c t:Rat×Nat):(plG c t).2=t.2\/(plG c t).2=c.2:=by
 unfold plG;split
 ·exact .inl rfl
 ·exact .inr rfl
theorem z44 {l:List (Rat×Nat)} {t c:Rat×Nat} (h:c∈gaG l t):(∃d∈l,d.2=c.2)\/t.2=c.2:=by
 rcases zm7 t l with⟨_,e⟩|⟨j,d,hj,_,_,e⟩
 ·rw[e] at h
  rcases List.mem_append.1 h with h|h
  ·exact .inl ⟨c,h,rfl⟩
  ·simp at h;subst h;exact .inr rfl
 ·rw[e] at h
  rcases List.mem_or_eq_of_mem_set h with h|rfl
  ·exact .inl ⟨c,h,rfl⟩
  ·rcases zxh d t with k|k
   ·exact .inr k.symm
   ·exact .inl ⟨d,List.mem_of_getElem? hj,k.symm⟩
theorem z45 (t:Rat×Nat) (l:List (Rat×Nat)):(gaG l t).length<=l.length+1:=by
 rcases zm7 t l with⟨_,e⟩|⟨j,d,hj,_,_,e⟩<;>rw[e]<;>simp
theorem zw1 (T:List (Rat×Nat)):∀i,(grG T i).length<=i
 |0=>by simp[grG]
 |i+1=>by
  have:=zw1 T i
  cases hi:T[i]? with
  |none=>rw[zwy hi];omega
  |some t=>rw[zr9 hi];have:=z45 t (grG T i);omega
def ULs (l:List (Rat×Nat)):Prop:=∀(i k:Nat) (t u:Rat×Nat),i≠k->l[i]? =some t->l[k]? =some u->z5c (u.2:Rat) (t.2:Rat)=false
def PosR (l:List (Rat×Nat)):Prop:=∀t∈l,(0:Rat)<(t.2:Rat)
theorem PosR.at {l:List (Rat×Nat)} (h:PosR l) {i:Nat} {t:Rat×Nat} (ht:l[i]? =some t):(0:Rat)<(t.2:Rat):=h t (List.mem_of_getElem? ht)
theorem z2n {c t:Rat×Nat} (hc:(0:Rat)<(c.2:Rat)) (ht:(0:Rat)<(t.2:Rat)) (h:z5c (t.2:Rat) (c.2:Rat)=true):z5c ((plG c t).2:Rat) (c.2:Rat)=true/\(0:Rat)<((plG c t).2:Rat):=by
 rcases zxh c t with e|e<;>rw[e]
 ·exact⟨h,ht⟩
 ·exact⟨zx1 hc,hc⟩
theorem zzy {p q r:Rat} (hp:0<p) (hq:0<q) (hr:0<r) (h:z5c p q=true) (k:z5c q r=false):z5c p r=false:=by
 cases e:z5c p r
 ·rfl
 ·rw[zw8 hq hp hr (zu5 hp hq h) e] at k;cases k
theorem zu9 {p q:Rat} (hp:0<p) (hq:0<q) (h:z5c p q=false):z5c q p=false:=by
 cases e:z5c q p
 ·rfl
 ·rw[zu5 hq hp e] at h;cases h
theorem z47 {l:List (Rat×Nat)} {t:Rat×Nat} (hl:ULs l) (hp:PosR l) (ht:(0:Rat)<(t.2:Rat)):ULs (gaG l t)/\PosR (gaG l t):=by
 rcases zm7 t l with⟨h1,e⟩|⟨j,d,hj,h1,_,e⟩
 ·rw[e]
  refine⟨λi k a b hik ha hb=>?_,λa ha=>?_⟩
  ·rw[List.getElem?_append] at ha hb
   split at ha<;>split at hb
   ·exact hl i k a b hik ha hb
   ·have:b=t:=by
     have:=(List.getElem?_eq_some_iff.1 hb).1;simp at this;have e0:k-l.length=0:=by omega
     rw[e0] at hb;simpa using hb.symm
    subst this;exact h1 a (List.mem_of_getElem? ha)
   ·have:a=t:=by
     have:=(List.getElem?_eq_some_iff.1 ha).1;simp at this;have e0:i-l.length=0:=by omega
     rw[e0] at ha;simpa using ha.symm
    subst this;exact zu9 ht (hp.at hb) (h1 b (List.mem_of_getElem? hb))
   ·have h2:=(List.getElem?_eq_some_iff.1 ha).1
    have h3:=(List.getElem?_eq_some_iff.1 hb).1;simp at h2 h3;omega
  ·rcases List.mem_append.1 ha with h|h
   ·exact hp a h
   ·simp at h;subst h;exact ht
 ·rw[e]
  have hd:=hp.at hj;obtain⟨pa,pp⟩:=z2n hd ht h1;have hjl:=(List.getElem?_eq_some_iff.1 hj).1;refine⟨λi k a b hik ha hb=>?_,λa ha=>?_⟩
  ·rw[List.getElem?_set] at ha hb
   split at ha<;>split at hb
   ·omega
   ·injection ha with ha;subst ha
    subst i;have hb2:=hp.at hb;exact zu9 pp hb2 (zzy pp hd hb2 pa (zu9 hb2 hd (hl j k d b hik hj hb)))
   ·injection hb with hb;subst hb
    subst k;have ha2:=hp.at ha;exact zzy pp hd ha2 pa (hl i j a d hik ha hj)
   ·exact hl i k a b hik ha hb
  ·rcases List.mem_or_eq_of_mem_set ha with h|rfl
   ·exact hp a h
   ·exact pp
theorem zw2 {T:List (Rat×Nat)} (hp:PosR T):∀i,ULs (grG T i)/\PosR (grG T i)
 |0=>⟨λi k a b _ h=>by simp[grG] at h,λa h=>by simp[grG] at h⟩
 |i+1=>by
  obtain⟨h1,h2⟩:=zw2 hp i
  cases hi:T[i]? with
  |none=>rw[zwy hi];exact⟨h1,h2⟩
  |some t=>rw[zr9 hi];exact z47 h1 h2 (hp.at hi)
theorem z2p (n d:Nat):(n:Rat)/(d:Rat)=Rat.divInt (n:Int) (d:Int):=by
 rw[Rat.divInt_eq_div];rfl
theorem zvm {n d k:Nat} (hd:d≠0) (h1:n<10^k) (h2:d<10^k):sz ((n:Rat)/(d:Rat)) k:=by
 rw[z2p];exact zig (by omega) (by rw[Int.natAbs_natCast];exact h1) (by rw[Int.natAbs_natCast];exact h2)
theorem zzs {q:Rat} {k:Nat} (h:sz q (k+k)):sz (rt q) k:=by
 have lt:∀n:Nat,n<10^(k+k)->isq n<10^k:=λn hn=>by
  refine Nat.lt_of_not_le λhc=>?_;have:=Nat.mul_le_mul hc hc;rw[<-Nat.pow_add] at this;have:=(zv0 n).1;omega
 have pos:0<isq q.den:=by
  have h2:=(zv0 q.den).2;have:=q.den_pos;rcases Nat.eq_zero_or_pos (isq q.den) with e|e
  ·rw[e] at h2;omega
  ·exact e
 exact zvm (by omega) (lt _ h.1) (lt _ h.2)
def insS (t:Rat×Nat):List (Rat×Nat)->List (Rat×Nat)
 |[]=>[t]
 |c::l=>if t.2<c.2 then t::c::l else c::insS t l
def srtS:List (Rat×Nat)->List (Rat×Nat)
 |[]=>[]
 |t::l=>insS t (srtS l)
theorem zxl (t c:Rat×Nat):∀l:List (Rat×Nat),c∈insS t l↔c=t\/c∈l
 |[]=>by simp[insS]
 |d::l=>by
  unfold insS;split
  ·simp
  ·rw[List.mem_cons,zxl t c l,List.mem_cons]
   constructor
   ·rintro(h|h|h)
    ·exact .inr (.inl h)
    ·exact .inl h
    ·exact .inr (.inr h)
   ·rintro(h|h|h)
    ·exact .inr (.inl h)
    ·exact .inl h
    ·exact .inr (.inr h)
theorem zvb (c:Rat×Nat):∀l:List (Rat×Nat),c∈srtS l↔c∈l
 |[]=>by simp[srtS]
 |t::l=>by
  rw[show srtS (t::l)=insS t (srtS l) from rfl,zxl,zvb c l,List.mem_cons]
theorem zz0 (t:Rat×Nat):∀l:List (Rat×Nat),(insS t l).length=l.length+1
 |[]=>rfl
 |d::l=>by
  unfold insS;split
  ·rfl
  ·simp[zz0 t l]
theorem zz1:∀l:List (Rat×Nat),(srtS l).length=l.length
 |[]=>rfl
 |t::l=>by rw[show srtS (t::l)=insS t (srtS l) from rfl,zz0,zz1 l];rfl
def IncS (l:List (Rat×Nat)):Prop:=l.Pairwise λa b=>a.2<b.2
theorem zz2 {t:Rat×Nat}:∀{l:List (Rat×Nat)},IncS l->(∀c∈l,c.2≠t.2)->IncS (insS t l)
 |[],_,_=>List.pairwise_singleton _ _
 |d::l,h,hne=>by
  have hd:=List.pairwise_cons.1 h;unfold insS;split
  ·refine List.pairwise_cons.2 ⟨λc hc=>?_,h⟩
   rcases List.mem_cons.1 hc with rfl|hc
   ·assumption
   ·have:=hd.1 c hc;omega
  ·refine List.pairwise_cons.2 ⟨λc hc=>?_,zz2 hd.2 λc hc=>hne c (List.mem_cons_of_mem _ hc)⟩
   rcases(zxl t c l).1 hc with rfl|hc
   ·have:=hne d (yD ..);omega
   ·exact hd.1 c hc
def DisR (l:List (Rat×Nat)):Prop:=l.Pairwise λa b=>a.2≠b.2
theorem zxo:∀{l:List (Rat×Nat)},DisR l->IncS (srtS l)
 |[],_=>List.Pairwise.nil
 |t::l,h=>by
  have hd:=List.pairwise_cons.1 h;exact zz2 (zxo hd.2) λc hc=>(hd.1 c ((zvb c l).1 hc)).symm
theorem z1q:∀{l m:List (Rat×Nat)},IncS l->IncS m->(∀c,c∈l↔c∈m)->l=m
 |[],[],_,_,_=>rfl
 |[],b::m,_,_,h=>by have:=(h b).2 (yD ..);cases this
 |a::l,[],_,_,h=>by have:=(h a).1 (yD ..);cases this
 |a::l,b::m,h1,h2,h=>by
  have h1':=List.pairwise_cons.1 h1;have h2':=List.pairwise_cons.1 h2;have e:a=b:=by
   rcases List.mem_cons.1 ((h a).1 (yD ..)) with e|e
   ·exact e
   ·rcases List.mem_cons.1 ((h b).2 (yD ..)) with e2|e2
    ·exact e2.symm
    ·have:=h2'.1 a e;have:=h1'.1 b e2;omega
  subst e;rw[z1q h1'.2 h2'.2 λc=>?_];constructor
  ·intro hc
   rcases List.mem_cons.1 ((h c).1 (List.mem_cons_of_mem _ hc)) with e|e
   ·subst e;have:=h1'.1 c hc;omega
   ·exact e
  ·intro hc
   rcases List.mem_cons.1 ((h c).2 (List.mem_cons_of_mem _ hc)) with e|e
   ·subst e;have:=h2'.1 c hc;omega
   ·exact e
def keG (T:List (Rat×Nat)):List (Rat×Nat):=(T.foldl gaG []).filter λc=>!decide (c.1=0)
def mkG (T:List (Rat×Nat)):List (Rat×Nat):=srtS (keG T)
theorem z1t:∀{l:List (Rat×Nat)},ULs l->PosR l->DisR l
 |[],_,_=>List.Pairwise.nil
 |t::l,h,hp=>by
  refine List.pairwise_cons.2 ⟨λc hc=>?_,z1t (λi k a b hik ha hb=>h (i+1) (k+1) a b (by omega) (by simpa using ha) (by simpa using hb)) λa ha=>hp a (List.mem_cons_of_mem _ ha)⟩;obtain⟨i,hi⟩:=List.mem_iff_getElem?.1 hc;have:=h 0 (i+1) t c (by omega) rfl (by simpa using hi);intro e;rw[e,zx1 (hp c (List.mem_cons_of_mem _ hc))] at this;cases this
theorem zz8 {l:List (Rat×Nat)} (h:ULs l):∀a∈l,∀b∈l,a≠b->z5c (b.2:Rat) (a.2:Rat)=false:=λa ha b hb hn=>by
 obtain⟨i,hi⟩:=List.mem_iff_getElem?.1 ha;obtain⟨k,hk⟩:=List.mem_iff_getElem?.1 hb;refine h i k a b (λe=>?_) hi hk;subst e;rw[hi] at hk;injection hk with hk;exact hn hk
theorem zrq {l:List (Rat×Nat)} (h:IncS l):∀{i k:Nat} {t u:Rat×Nat},i<k->l[i]? =some t->l[k]? =some u->t.2<u.2:=by
 intro i k t u hik ht hu;obtain⟨h1,e1⟩:=List.getElem?_eq_some_iff.1 ht;obtain⟨h2,e2⟩:=List.getElem?_eq_some_iff.1 hu;rw[<-e1,<-e2];exact List.pairwise_iff_getElem.1 h i k h1 h2 hik
theorem zx8 {T:List (Rat×Nat)} {c:Rat×Nat} (h:c∈mkG T):c∈grG T T.length/\c.1≠0:=by
 have h2:=List.mem_filter.1 ((zvb c _).1 h);refine⟨by rw[zuk];exact h2.1,?_⟩;simpa using h2.2
theorem z1u {T:List (Rat×Nat)} (hp:PosR T):DisR (keG T):=by
 have h:=z1t (zw2 hp T.length).1 (zw2 hp T.length).2;rw[zuk] at h;exact h.sublist List.filter_sublist
theorem zw5 (T:List (Rat×Nat)):(mkG T).length=(keG T).length/\(keG T).length<=T.length:=by
 refine⟨zz1 _,?_⟩;have h1:=List.length_filter_le (λc:Rat×Nat=>!decide (c.1=0)) (T.foldl gaG []);have h2:=zw1 T T.length;rw[zuk] at h2;exact zO h1 h2
theorem ycs {T:List (Rat×Nat)} {d:Nat} (hp:PosR T) (hn:∀c∈mkG T,NrmR c.2 d) (hlen:T.length<=12) (hs:∀c∈mkG T,sz c.1 60):SdOk (mkG T) d:=by
 have hu:=zw2 hp T.length;have hi:IncS (mkG T):=zxo (z1u hp);refine⟨by have:=zw5 T;omega,λt ht=>?_,λi t u ht hu=>zrq hi (Nat.lt_succ_self i) ht hu,λi k t u hik ht hk=>?_⟩
 ·exact⟨(zx8 ht).2,hs t ht,hn t ht⟩
 ·refine zz8 hu.1 t (zx8 (List.mem_of_getElem? ht)).1 u (zx8 (List.mem_of_getElem? hk)).1 λe=>?_
  subst e;rcases Nat.lt_or_ge i k with h|h
  ·have:=zrq hi h ht hk;omega
  ·have:=zrq hi (by omega:k<i) hk ht;omega
def ngT (t:Rat×Nat):Rat×Nat:=(-t.1,t.2)
def swS (P:List (Rat×Nat)) (m:Nat) (u t:Rat×Nat):List (Rat×Nat):=(P.set (m+1) u).set m t
def sgS (m x:Nat):Nat:=if x=m then m+1 else if x=m+1 then m else x
theorem zz5 (m x:Nat):sgS m (sgS m x)=x:=by
 unfold sgS;split<;>split<;>(try split)<;>omega
theorem z5z {P:List (Rat×Nat)} {m:Nat} {u t:Rat×Nat} (hu:P[m]? =some u) (ht:P[m+1]? =some t) (x:Nat):(swS P m u t)[x]? =P[sgS m x]? :=by
 have h1:=(List.getElem?_eq_some_iff.1 ht).1;unfold swS sgS;rw[List.getElem?_set,List.getElem?_set,List.length_set];by_cases e:x=m
 ·subst e
  rw[if_pos rfl,if_pos (by omega),if_pos rfl,ht]
 ·rw[if_neg (λk=>e k.symm),if_neg e]
  by_cases e2:x=m+1
  ·subst e2
   rw[if_pos rfl,if_pos h1,if_pos rfl,hu]
  ·rw[if_neg (λk=>e2 k.symm),if_neg e2]
structure OutS (L:List (Rat×Nat)) (n i0:Nat) (P:List (Rat×Nat)):Prop where
 len:P.length=n
 mem:∀t,t∈P↔t∈L
 dis:∀(i k:Nat) (t u:Rat×Nat),i≠k->P[i]? =some t->P[k]? =some u->t.2≠u.2
 ord:∀(i k:Nat) (t u:Rat×Nat),i<k->k<i0->P[i]? =some t->P[k]? =some u->t.2<u.2
structure InvS (L:List (Rat×Nat)) (n i0 j:Nat) (P:List (Rat×Nat)):Prop where
 len:P.length=n
 mem:∀t,t∈P↔t∈L
 dis:∀(i k:Nat) (t u:Rat×Nat),i≠k->P[i]? =some t->P[k]? =some u->t.2≠u.2
 ord:∀(i k:Nat) (t u:Rat×Nat),i<k->k<=i0->i≠j->k≠j->P[i]? =some t->P[k]? =some u->t.2<u.2
 low:∀(k:Nat) (t u:Rat×Nat),j<k->k<=i0->P[j]? =some t->P[k]? =some u->t.2<u.2
theorem OutS.begin {L:List (Rat×Nat)} (h:DisR L):OutS L L.length 1 L:=by
 refine⟨rfl,λt=>Iff.rfl,λi k t u hik ht hu=>?_,λi k t u h1 h2=>by omega⟩;obtain⟨h1,e1⟩:=List.getElem?_eq_some_iff.1 ht;obtain⟨h2,e2⟩:=List.getElem?_eq_some_iff.1 hu;rcases Nat.lt_or_ge i k with hl|hl
 ·rw[<-e1,<-e2];exact List.pairwise_iff_getElem.1 h i k h1 h2 hl
 ·rw[<-e1,<-e2];exact(List.pairwise_iff_getElem.1 h k i h2 h1 (by omega)).symm
theorem OutS.enter {L:List (Rat×Nat)} {n i0:Nat} {P:List (Rat×Nat)} (h:OutS L n i0 P):InvS L n i0 i0 P:=
 ⟨h.len,h.mem,h.dis,λi k t u h1 h2 h3 h4=>h.ord i k t u h1 (by omega),λk t u h1 h2=>by omega⟩
theorem InvS.swap {L:List (Rat×Nat)} {n i0 m:Nat} {P:List (Rat×Nat)} {t u:Rat×Nat} (h:InvS L n i0 (m+1) P) (hm:m+1<=i0) (hu:P[m]? =some u) (ht:P[m+1]? =some t) (hlt:t.2<u.2):InvS L n i0 m (swS P m u t):=by
 have at_:=z5z hu ht;have s1:∀x,x≠m->x≠m+1->sgS m x=x:=λx h1 h2=>by unfold sgS;rw[if_neg h1,if_neg h2]
 have s2:sgS m m=m+1:=by simp[sgS]
 have s3:sgS m (m+1)=m:=by simp[sgS]
 refine⟨by unfold swS;simp[h.len],λx=>?_,λi k a b hik ha hb=>?_,λi k a b h1 h2 h3 h4 ha hb=>?_,λk a b h1 h2 ha hb=>?_⟩
 ·rw[<-h.mem x,List.mem_iff_getElem?,List.mem_iff_getElem?]
  constructor
  ·rintro⟨i,hi⟩;rw[at_] at hi;exact⟨_,hi⟩
  ·rintro⟨i,hi⟩;exact⟨sgS m i,by rw[at_,zz5];exact hi⟩
 ·rw[at_] at ha hb
  exact h.dis _ _ a b (λe=>hik (by rw[<-zz5 m i,e,zz5])) ha hb
 ·rw[at_] at ha hb
  by_cases e1:i=m+1
  ·subst e1
   rw[s3] at ha;rw[s1 k h4 (by omega)] at hb;exact h.ord m k a b (by omega) h2 (by omega) (by omega) ha hb
  ·rw[s1 i h3 e1] at ha
   by_cases e2:k=m+1
   ·subst e2
    rw[s3] at hb;exact h.ord i m a b (by omega) (by omega) e1 (by omega) ha hb
   ·rw[s1 k h4 e2] at hb
    exact h.ord i k a b h1 h2 e1 e2 ha hb
 ·rw[at_] at ha hb
  rw[s2,ht] at ha;injection ha with ha;subst ha;by_cases e2:k=m+1
  ·subst e2
   rw[s3,hu] at hb;injection hb with hb;subst hb;exact hlt
  ·rw[s1 k (by omega) e2] at hb
   exact h.low k _ b (by omega) h2 ht hb
theorem InvS.stop {L:List (Rat×Nat)} {n i0 j:Nat} {P:List (Rat×Nat)} (h:InvS L n i0 j P) (hj:j=0\/∃m t u,j=m+1/\P[m]? =some u/\P[m+1]? =some t/\¬t.2<u.2):OutS L n (i0+1) P:=by
 refine⟨h.len,h.mem,h.dis,λi k a b h1 h2 ha hb=>?_⟩;by_cases e1:i=j
 ·subst e1;exact h.low k a b h1 (by omega) ha hb
 ·by_cases e2:k=j
  ·subst e2
   rcases hj with e|⟨m,t,u,rfl,hu,ht,hlt⟩
   ·omega
   ·rw[ht] at hb;injection hb with hb;subst hb
    have hut:u.2<t.2:=by
     have:=h.dis m (m+1) u t (by omega) hu ht;omega
    rcases Nat.lt_or_ge i m with e3|e3
    ·exact Nat.lt_trans (h.ord i m a u e3 (by omega) (by omega) (by omega) ha hu) hut
    ·obtain rfl:i=m:=by omega
     rw[hu] at ha;injection ha with ha;subst ha;exact hut
  ·exact h.ord i k a b h1 (by omega) e1 e2 ha hb
theorem OutS.end_ {L:List (Rat×Nat)} {n i0:Nat} {P:List (Rat×Nat)} (h:OutS L n i0 P) (hn:n<=i0) (hd:DisR L):P=srtS L:=by
 refine z1q (List.pairwise_iff_getElem.2 λi k h1 h2 hik=>?_) (zxo hd) λc=>by rw[h.mem,zvb]
 exact h.ord i k _ _ hik (by have:=h.len;omega) (yB h1) (yB h2)
end
section
open Go.RowKit Go.Shelf Lib Str Limb
attribute [local go_sem] Oper.semAt_some
theorem z1y {W:zA} {B g n c:Nat} {t:TypeId} {xs:List Value} (h:W.ownsRow B t 2 (.slice (some ⟨g,0,none⟩) n c) n xs):B<=g:=by
 rcases h.2 with⟨e,_⟩|⟨g',cap,cur,e,hb,hg,_⟩
 ·cases e
 ·cases e;exact hb
theorem zu3 {W:zA} {B g n c:Nat} {P:List (Rat×Nat)} (h:W.ownsRow B 37 2 (.slice (some ⟨g,0,none⟩) n c) n (zbj (P.map strT))) {i:Nat} {t:Rat×Nat} (ht:P[i]? =some t):W.cell? ⟨g,i*2,none⟩=some (St (numS t.1))/\W.cell? ⟨g,i*2+1,none⟩=some (St (zD t.2)):=by
 have hl:=h.1;rw[zn8,zV] at hl;have hi:=(List.getElem?_eq_some_iff.1 ht).1;obtain⟨g',c',e, -,hx⟩:=zye h (by omega);injection e with e1 _ _;injection e1 with e1;cases e1;obtain⟨k0,k1⟩:=zpb _ i _ (show(P.map strT)[i]? =some (strT t) by rw[List.getElem?_map,ht];rfl);exact⟨hx _ _ k0,hx _ _ k1⟩
theorem zz6 {W:zA} {B g n c k:Nat} {P:List (Rat×Nat)} (h:W.ownsRow B 37 2 (.slice (some ⟨g,0,none⟩) n c) n (zbj (P.map strT))) (hn:n=P.length) (hk:k<n) (t:Rat×Nat):
 ((W.setCell ⟨g,k*2,none⟩ (St (numS t.1))).setCell ⟨g,k*2+1,none⟩ (St (zD t.2))).ownsRow B 37 2 (.slice (some ⟨g,0,none⟩) n c) n (zbj ((P.set k t).map strT)):=by
 have:=z6l h (by rw[zV];exact hn) hk (z:=numS t.1) (zr:=zD t.2);rw[List.map_set];exact this
def excY (P:List (Rat×Nat)) (m:Nat) (u t:Rat×Nat) (f:Nat->Bool):List (Rat×Nat):=if f 17=true then swS P m u t else if f 15=true then P.set (m+1) u else P
structure ExcS (w:zA) (B g n cap:Nat) (P:List (Rat×Nat)) (m:Nat) (u t:Rat×Nat) (_:Unit) (f:Nat->Bool) (W:zA):Prop where
 bel:zB B w W
 own:W.ownsRow B 37 2 (.slice (some ⟨g,0,none⟩) n cap) n (zbj ((excY P m u t f).map strT))
theorem ExcS.congr {w W:zA} {B g n cap:Nat} {P:List (Rat×Nat)} {m:Nat} {u t:Rat×Nat} {q:Unit} {f f':Nat->Bool} (h:ExcS w B g n cap P m u t q f W) (e15:f' 15=f 15) (e17:f' 17=f 17):ExcS w B g n cap P m u t q f' W:=
 ⟨h.bel,by have:=h.own;unfold excY at this⊢;rw[e15,e17];exact this⟩
theorem z17 (B g cap n:Nat) (L:List (Rat×Nat)) (hL:L.length=n) (hn:n<=12) (hd:DisR L)
 (CM:Hid (∀t u:Rat×Nat,t∈L->u∈L->∃nn:Int,(decide (nn<0)=decide (t.2<u.2))/\qK 51 #[.agg #[St (numS t.1),St (zD t.2)],.agg #[St (numS u.1),St (zD u.2)]] (.int .i64 nn)))
 (w:zA) (HW:Hid (∀W,zB B w W->Wd W)) (hB:B<=w.heap.size) (HO:Hid (w.ownsRow B 37 2 (.slice (some ⟨g,0,none⟩) n cap) n (zbj (L.map strT)))):
 zC zF 192 #[.slice (some ⟨g,0,none⟩) n cap,.int .i64 0,.int .i64 (n:Int),.func (.func 51) #[] #[]] w λe w'=>(∃u,e=.returned u)/\zB B w w'/\w'.ownsRow B 37 2 (.slice (some ⟨g,0,none⟩) n cap) n (zbj ((srtS L).map strT)):=by
 have D0:=hid (zM B w);have HB0:=hid hB;have S0:=hid (OutS.begin hd);rw[hL] at S0;have HD:=hid hd;clear hd hL hB;go_enter Tryz.func192,Tryz.ntmps192;go_wp21;go_loopw [8] (λi wr=>∃(i0:Nat) (P:List (Rat×Nat)),1<=i0/\i0<=n+1/\i=.int .i64 (i0:Int)/\Hid (OutS L n i0 P)/\Hid (zB B w wr)/\Hid (wr.ownsRow B 37 2 (.slice (some ⟨g,0,none⟩) n cap) n (zbj (P.map strT))))
  (λi _=>n+1-(zL i).toNat)
 case atStart=>exact⟨1,L,by omega,by omega,rfl,S0,D0,HO⟩
 case round=>
  clear D0 S0 HO;obtain⟨i0,P0,h1,h2,rfl,hS,D1,hO⟩:=hrel;by_cases hlt:i0<n
  ·have hw1:IntKind.i64.wrap ((i0:Int)+1)=(i0:Int)+1:=zI _ (by omega)
   have HI:=hid hS.out.enter;clear hS;go_wp21;go_loopw [9] (λj wr=>∃(jn:Nat) (P:List (Rat×Nat)),jn<=i0/\j=.int .i64 (jn:Int)/\Hid (InvS L n i0 jn P)/\Hid (zB B w wr)/\Hid (wr.ownsRow B 37 2 (.slice (some ⟨g,0,none⟩) n cap) n (zbj (P.map strT))))
    (λj _=>(zL j).toNat)
   case atStart=>exact⟨i0,P0,zN _,rfl,HI,D1,hO⟩
   case round=>
    clear HI D1 hO;obtain⟨jn,P,hj,rfl,HI,HB,hO⟩:=hrel;have HGB:=hid (zO HB0.out HB.out.size);by_cases h0:jn=0
    ·subst h0
     have HE:=hid (HI.out.stop (.inl rfl));clear HI;go_wp21
     (refine wp_region_quiet_lit (by kernel_rfl) (by kernel_rfl) (WQ.out ?_);(repeat(first|(apply WQ.read (by rfl);(focus(rintro W ⟨n,rfl⟩;go_simp;try with_reducible rfl));try simp only[zzQ])|(apply WQ.skip (by rfl);try simp only[zzQ])));refine WQ.nil ?_;rintro _ ⟨nq,rfl⟩)
     have HX:=hid (zao HB.out nq);have HO2:=hid (show(wr.drewN nq).ownsRow B 37 2 (.slice (some ⟨g,0,none⟩) n cap) n (zbj (P.map strT)) from zcj (zac (zao (zM wr.heap.size wr) nq)) hO.out);clear HB HGB hO;go_wp21;go_roundw
     case rel=>exact⟨i0+1,P,by omega,by omega,by go_num,HE,HX,HO2⟩
     case measure=>simp[zL];omega
    ·obtain⟨m,hm⟩:∃m,jn=m+1:=⟨jn-1,by omega⟩
     have hPl:=HI.out.len;obtain⟨t,ht⟩:∃t,P[jn]? =some t:=⟨_,yB (by omega)⟩;obtain⟨u,hu⟩:∃u,P[m]? =some u:=⟨_,yB (by omega)⟩;obtain⟨nn,hnn,hcm⟩:=CM.out t u ((HI.out.mem t).1 (List.mem_of_getElem? ht)) ((HI.out.mem u).1 (List.mem_of_getElem? hu));have HC1:=hid (zu3 hO.out ht);have HC0:=hid (zu3 hO.out hu);have hj0:(0:Int)<(jn:Int):=by omega
     have hwm:IntKind.i64.wrap ((jn:Int)-1)=(m:Int):=by rw[zI _ (by omega)];omega
     have hmn:m<n:=by omega
     have hjnn:jn<n:=by omega
     have HPL:=hid hPl;have HHT:=hid ht;have HHU:=hid hu;have HM:=hid hm;have HCM:=hid hcm;have HNN:=hid hnn;clear hPl ht hu hm hcm hnn h0;obtain⟨x1,hx1⟩:∃x1,numS t.1=x1:=⟨_,rfl⟩;obtain⟨y1,hy1⟩:∃y1,zD t.2=y1:=⟨_,rfl⟩;obtain⟨x0,hx0⟩:∃x0,numS u.1=x0:=⟨_,rfl⟩;obtain⟨y0,hy0⟩:∃y0,zD u.2=y0:=⟨_,rfl⟩;rw[hx1,hy1] at HC1 HCM;rw[hx0,hy0] at HC0 HCM;have HVS:=hid (⟨hx1,hy1,hx0,hy0⟩:_/\_/\_/\_);clear hx1 hy1 hx0 hy0;cases hlt2:decide (t.2<u.2)
     ·have hng:decide (nn<0)=false:=by rw[HNN.out,hlt2]
      have hnb:¬nn<0:=of_decide_eq_false hng;have HE:=hid (HI.out.stop (.inr ⟨m,t,u,HM.out,HHU.out,by rw[<-HM.out];exact HHT.out,of_decide_eq_false hlt2⟩));clear HI HNN;go_wp21;refine zbl (λ_ W=>qL wr W) (by kernel_rfl) (by kernel_rfl) (zM _ _).drew ?_;refine qR (.int .i64 (jn:Int)) ?_ (hy:=λf W' hf h=>by go_simp;try omega);refine qR (.int .i64 0) ?_ (hy:=λf W' hf h=>by go_simp;try omega);refine qR (.bool true) ?_ (hy:=λf W' hf h=>by go_simp;try omega);simp only[zzQ];refine qR (.bool true) ?_ (hy:=λf W' hf h=>by go_simp;try omega);refine qR (.func (.func 51) #[] #[]) ?_ (hy:=λf W' hf h=>by go_simp;try omega);refine qR (.slice (some ⟨g,0,none⟩) n cap) ?_ (hy:=λf W' hf h=>by go_simp;try omega);simp only[zzQ];refine qR (.int .i64 (jn:Int)) ?_ (hy:=λf W' hf h=>by go_simp;try omega);refine qR (.pointer (some ⟨g,jn*2,none⟩)) ?_ (hy:=λf W' hf h=>by go_simp;try omega);refine qR (.agg #[St x1,St y1]) ?_ (hy:=λf W' hf h=>by obtain⟨c0,c1⟩:=HC1.out;have d0:=zai h c0;have d1:=zai h c1;go_simp;try omega);simp only[zzQ];refine qR (.slice (some ⟨g,0,none⟩) n cap) ?_ (hy:=λf W' hf h=>by go_simp;try omega);refine qR (.int .i64 (jn:Int)) ?_ (hy:=λf W' hf h=>by go_simp;try omega);refine qR (.int .i64 (m:Int)) ?_ (hy:=λf W' hf h=>by go_simp;try omega);simp only[zzQ];refine qR (.pointer (some ⟨g,m*2,none⟩)) ?_ (hy:=λf W' hf h=>by go_simp;try omega);refine qR (.agg #[St x0,St y0]) ?_ (hy:=λf W' hf h=>by obtain⟨c0,c1⟩:=HC0.out;have d0:=zai h c0;have d1:=zai h c1;go_simp;try omega);simp only[zzQ]
      refine zar (.int .i64 nn) (by rfl) (λf W' hf h C' hC'=>by
       go_simp;refine zzM (HCM.out _ (HW.out _ (HB.out.trans (h.mono HGB.out)))) λw' hb=>?_;exact⟨rfl,hC' _ (h.trans (hb.mono h.size))⟩) ?_
      refine qR (.bool false) ?_ (hy:=λf W' hf h=>by go_simp;try omega);refine qR (.bool false) ?_ (hy:=λf W' hf h=>by go_simp;try omega);simp only[zzQ];refine zck λf X hf h=>?_;have HX:=hid (HB.out.trans (h.mono HGB.out));have HO2:=hid (zcj (zac h) hO.out);clear hf h HB HGB hO HC1 HC0 HCM;go_wp21;go_roundw
      case rel=>exact⟨i0+1,P,by omega,by omega,by go_num,HE,HX,HO2⟩
      case measure=>simp[zL];omega
     ·have hng:decide (nn<0)=true:=by rw[HNN.out,hlt2]
      have hnb:nn<0:=of_decide_eq_true hng;have hsw:=HI.out;rw[HM.out] at hsw;have HE:=hid (hsw.swap (by have:=HM.out;omega) HHU.out (by rw[<-HM.out];exact HHT.out) (of_decide_eq_true hlt2));clear HI HNN hsw;go_wp21;refine zbl (λ_ W=>qL wr W) (by kernel_rfl) (by kernel_rfl) (zM _ _).drew ?_;refine qR (.int .i64 (jn:Int)) ?_ (hy:=λf W' hf h=>by go_simp;try omega);refine qR (.int .i64 0) ?_ (hy:=λf W' hf h=>by go_simp;try omega);refine qR (.bool true) ?_ (hy:=λf W' hf h=>by go_simp;try omega);simp only[zzQ];refine qR (.bool true) ?_ (hy:=λf W' hf h=>by go_simp;try omega);refine qR (.func (.func 51) #[] #[]) ?_ (hy:=λf W' hf h=>by go_simp;try omega);refine qR (.slice (some ⟨g,0,none⟩) n cap) ?_ (hy:=λf W' hf h=>by go_simp;try omega);simp only[zzQ];refine qR (.int .i64 (jn:Int)) ?_ (hy:=λf W' hf h=>by go_simp;try omega);refine qR (.pointer (some ⟨g,jn*2,none⟩)) ?_ (hy:=λf W' hf h=>by go_simp;try omega);refine qR (.agg #[St x1,St y1]) ?_ (hy:=λf W' hf h=>by obtain⟨c0,c1⟩:=HC1.out;have d0:=zai h c0;have d1:=zai h c1;go_simp;try omega);simp only[zzQ];refine qR (.slice (some ⟨g,0,none⟩) n cap) ?_ (hy:=λf W' hf h=>by go_simp;try omega);refine qR (.int .i64 (jn:Int)) ?_ (hy:=λf W' hf h=>by go_simp;try omega);refine qR (.int .i64 (m:Int)) ?_ (hy:=λf W' hf h=>by go_simp;try omega);simp only[zzQ]
      refine qR (.pointer (some ⟨g,m*2,none⟩)) ?_ (hy:=λf W' hf h=>by go_simp;try omega);refine qR (.agg #[St x0,St y0]) ?_ (hy:=λf W' hf h=>by obtain⟨c0,c1⟩:=HC0.out;have d0:=zai h c0;have d1:=zai h c1;go_simp;try omega);simp only[zzQ]
      refine zar (.int .i64 nn) (by rfl) (λf W' hf h C' hC'=>by
       go_simp;refine zzM (HCM.out _ (HW.out _ (HB.out.trans (h.mono HGB.out)))) λw' hb=>?_;exact⟨rfl,hC' _ (h.trans (hb.mono h.size))⟩) ?_
      refine qR (.bool true) ?_ (hy:=λf W' hf h=>by go_simp;try omega);refine qR (.bool true) ?_ (hy:=λf W' hf h=>by go_simp;try omega);simp only[zzQ];refine zck λf X hf h=>?_;have HXB:=hid (HB.out.trans (h.mono HGB.out));have HO2:=hid (zcj (zac h) hO.out);clear hf h HB HGB hO HC1 HC0 HCM;go_wp21;have HHU2:Hid ((P.set (m+1) u)[m]? =some u):=hid (by rw[List.getElem?_set,if_neg (by omega)];exact HHU.out);refine zc4 (λ(_:Unit) i=>([.slice (some ⟨g,0,none⟩) n cap,.int .i64 (jn:Int),.slice (some ⟨g,0,none⟩) n cap,.int .i64 (jn:Int),.int .i64 (m:Int),.slice (some ⟨g,0,none⟩) n cap,.int .i64 (jn:Int),.int .i64 (m:Int),.pointer (some ⟨g,m*2,none⟩),.agg #[St x0,St y0],.slice (some ⟨g,0,none⟩) n cap,.int .i64 (jn:Int),.pointer (some ⟨g,jn*2,none⟩),.agg #[St x1,St y1],.pointer (some ⟨g,jn*2,none⟩),undef,.pointer (some ⟨g,m*2,none⟩),undef]:List Value).getD i undef) (ExcS w B g n cap P m u t) (by kernel_rfl) (by kernel_rfl) () ⟨HXB.out.drew,HO2.out⟩ λq=>?_;refine qB (.slice (some ⟨g,0,none⟩) n cap) (λf W' h=>h.congr rfl rfl) ?_ (hy:=λf W' hf h=>by go_simp;try omega);refine qB (.int .i64 (jn:Int)) (λf W' h=>h.congr rfl rfl) ?_ (hy:=λf W' hf h=>by go_simp;try omega);refine qB (.slice (some ⟨g,0,none⟩) n cap) (λf W' h=>h.congr rfl rfl) ?_ (hy:=λf W' hf h=>by go_simp;try omega);simp only[zzQ];refine qB (.int .i64 (jn:Int)) (λf W' h=>h.congr rfl rfl) ?_ (hy:=λf W' hf h=>by go_simp;try omega);refine qB (.int .i64 (m:Int)) (λf W' h=>h.congr rfl rfl) ?_ (hy:=λf W' hf h=>by go_simp;try omega);refine qB (.slice (some ⟨g,0,none⟩) n cap) (λf W' h=>h.congr rfl rfl) ?_ (hy:=λf W' hf h=>by go_simp;try omega);simp only[zzQ];refine qB (.int .i64 (jn:Int)) (λf W' h=>h.congr rfl rfl) ?_ (hy:=λf W' hf h=>by go_simp;try omega);refine qB (.int .i64 (m:Int)) (λf W' h=>h.congr rfl rfl) ?_ (hy:=λf W' hf h=>by go_simp;try omega);refine qB (.pointer (some ⟨g,m*2,none⟩)) (λf W' h=>h.congr rfl rfl) ?_ (hy:=λf W' hf h=>by go_simp;try omega);simp only[zzQ];refine qB (.agg #[St x0,St y0]) (λf W' h=>h.congr rfl rfl) ?_ (hy:=λf W' hf h=>by
       have h15:=hf.no (j:=15) hf.self (by kernel_rfl);have h17:=hf.no (j:=17) hf.self (by kernel_rfl);have ho:=h.own;rw[show excY P m u t f=P by unfold excY;rw[h15,h17];rfl] at ho;obtain⟨c0,c1⟩:=zu3 ho HHU.out;obtain⟨v1,v2,v3,v4⟩:=HVS.out;rw[v3] at c0;rw[v4] at c1;go_simp;try omega)
      refine qB (.slice (some ⟨g,0,none⟩) n cap) (λf W' h=>h.congr rfl rfl) ?_ (hy:=λf W' hf h=>by go_simp;try omega);refine qB (.int .i64 (jn:Int)) (λf W' h=>h.congr rfl rfl) ?_ (hy:=λf W' hf h=>by go_simp;try omega);simp only[zzQ];refine qB (.pointer (some ⟨g,jn*2,none⟩)) (λf W' h=>h.congr rfl rfl) ?_ (hy:=λf W' hf h=>by go_simp;try omega);refine qB (.agg #[St x1,St y1]) (λf W' h=>h.congr rfl rfl) ?_ (hy:=λf W' hf h=>by
       have h15:=hf.no (j:=15) hf.self (by kernel_rfl);have h17:=hf.no (j:=17) hf.self (by kernel_rfl);have ho:=h.own;rw[show excY P m u t f=P by unfold excY;rw[h15,h17];rfl] at ho;obtain⟨c0,c1⟩:=zu3 ho HHT.out;obtain⟨v1,v2,v3,v4⟩:=HVS.out;rw[v1] at c0;rw[v2] at c1;go_simp;try omega)
      refine qB (.pointer (some ⟨g,jn*2,none⟩)) (λf W' h=>h.congr rfl rfl) ?_ (hy:=λf W' hf h=>by go_simp;try omega);simp only[zzQ]
      refine zbv undef (by rfl) (by rfl) (λf W' hf h C' hC'=>by
       have h15:=hf.self;have h17:=hf.no (j:=17) hf.self (by kernel_rfl);have ho:=h.own;rw[show excY P m u t f=P by unfold excY;simp[h15,h17]] at ho;obtain⟨c0,c1⟩:=zu3 ho HHT.out;have z0:=z42 ho (jn*2);have z1:=z42 ho (jn*2+1);have hp:=zz6 ho HPL.out.symm hjnn u;obtain⟨v1,v2,v3,v4⟩:=HVS.out;rw[v3,v4] at hp;have hB':=z1y ho;have hc:=hC' _ (⟨(h.bel.setCell (by simp;omega) _).setCell (by simp;omega) _,(by unfold excY;simp[h17];rw[<-HM.out];rw[List.map_set] at hp;exact hp)⟩:ExcS w B g n cap P m u t q (λi=>if 15=i then true else f i) ((W'.setCell ⟨g,jn*2,none⟩ (St x0)).setCell ⟨g,jn*2+1,none⟩ (St y0)));clear ho hp h;go_simp;exact hc) ?_
      refine qB (.pointer (some ⟨g,m*2,none⟩)) (λf W' h=>h.congr rfl rfl) ?_ (hy:=λf W' hf h=>by go_simp;try omega);simp only[zzQ]
      refine zbv undef (by rfl) (by rfl) (λf W' hf h C' hC'=>by
       have h15:=hf.done 15 (by kernel_rfl);have h17:=hf.self;have ho:=h.own;rw[show excY P m u t f=P.set (m+1) u by unfold excY;simp[h15,h17]] at ho;obtain⟨c0,c1⟩:=zu3 ho HHU2.out;have z0:=z42 ho (m*2);have z1:=z42 ho (m*2+1);have hp:=zz6 ho (by rw[List.length_set];exact HPL.out.symm) hmn t;obtain⟨v1,v2,v3,v4⟩:=HVS.out;rw[v1,v2] at hp;have hB':=z1y ho;have hc:=hC' _ (⟨(h.bel.setCell (by simp;omega) _).setCell (by simp;omega) _,(by unfold excY;simp;exact hp)⟩:ExcS w B g n cap P m u t q (λi=>if 17=i then true else f i) ((W'.setCell ⟨g,m*2,none⟩ (St x1)).setCell ⟨g,m*2+1,none⟩ (St y1)));clear ho hp h;go_simp;exact hc) ?_
      try simp only[zzQ]
      refine ze1 λf W5 hf h=>?_;have HF:=hid h;have HL:=hid (show excY P m u t f=swS P m u t from if_pos (hf 17 (by decide)));clear h hf;go_wp21;go_roundw
      case rel=>exact⟨m,swS P m u t,by have:=HM.out;omega,by rfl,HE,hid HF.out.bel,by rw[<-HL.out];exact HF.out.own⟩
      case measure=>simp[zL];have:=HM.out;omega
  ·have HE:=hid (hS.out.end_ (by omega) HD.out)
   go_wp21;go_end0;exact⟨⟨_,rfl⟩,D1.out,by rw[<-HE.out];exact hO.out⟩
theorem z33 (v f:Value) (n:Nat) (hn:n<=12) (b:Int) (w:zA) (Q:zA->Prop)
 (IN:Hid (zC zF 192 #[v,.int .i64 0,.int .i64 (n:Int),f] w λe w'=>(∃u,e=.returned u)/\Q w')):
 zC zF 118 #[v,.int .i64 0,.int .i64 (n:Int),.int .i64 b,f] w λe w'=>(∃u,e=.returned u)/\Q w':=by
 have hw0:IntKind.i64.wrap ((n:Int)-0)=(n:Int):=by rw[zI _ (by omega)];omega
 have hw1:IntKind.i64.wrap (n:Int)=(n:Int):=zI _ (by omega);have h12:(n:Int)<=12:=by omega
 go_enter Tryz.func118,Tryz.ntmps118;go_wp21;refine wp_loop_rounds 1 ?_;rw[rounds_succ];go_wp21;refine IN.out.mono ?_;rintro e w' ⟨⟨u,rfl⟩,hb⟩;have HB:=hid hb;clear hb;go_wp21;refine bodyPost_ret (results_none rfl _ _ _) rfl ?_;exact⟨⟨_,rfl⟩,HB.out⟩
theorem z2z (v:Value) (p:Option Addr) (cap:Nat) (f:Value) (n:Nat) (hn:n<=12) (hv:v=.slice p n cap) (w:zA) (Q:zA->Prop)
 (IN:Hid (zC zF 192 #[.slice p n cap,.int .i64 0,.int .i64 (n:Int),f] w λe w'=>(∃u,e=.returned u)/\Q w')):
 zC zF 50 #[v,f] w λe w'=>(∃u,e=.returned u)/\Q w':=by
 have hl:=Tryz.bits_Len n w (by omega) (by omega);have HL:=hid hl;clear hl;have HI:=hid λm=>z33 (.slice p n cap) f n hn m w Q IN;have hwu:IntKind.u64.wrap (n:Int)=(n:Int):=IntWalk.u64_in _ (by omega);subst hv;go_enter Tryz.func50,Tryz.ntmps50;go_wp21;refine HL.out.mono ?_;rintro e w' ⟨rfl,rfl⟩;go_wp21;refine(HI.out _).mono ?_;rintro e w'' ⟨⟨u,rfl⟩,hb⟩;have HB:=hid hb;clear hb;go_wp21;go_end0;exact⟨⟨_,rfl⟩,HB.out⟩
theorem yct (B:Nat) (L:List (Rat×Nat)) (hn:L.length<=12) (hd:DisR L) (hnr:∀t∈L,sz (t.2:Rat) 90) (p:Option Addr) (c:Nat) (W:zA) (HW:Hid (∀V,zB B W V->Wd V)) (hB:B<=W.heap.size) (h:W.ownsRow B 37 2 (.slice p L.length c) L.length (zbj (L.map strT))):
 zC zF 50 #[.slice p L.length c,.func (.func 51) #[] #[]] W λe w'=>(∃u,e=.returned u)/\zB B W w'/\w'.ownsRow B 37 2 (.slice p L.length c) L.length (zbj ((srtS L).map strT)):=by
 rcases Nat.eq_zero_or_pos L.length with e0|e0
 ·obtain rfl:=List.length_eq_zero_iff.1 e0
  exact z2z (.slice p 0 c) p c _ 0 (by omega) rfl W _ (hid ((zgi _ _ W).mono λe w' ⟨h5,h6⟩=>⟨h5,h6.mono hB,zcj (zac h6) h⟩))
 ·obtain⟨g,c',e, -, -⟩:=zye h e0
  injection e with e1 _ e2;subst e1;subst e2;exact z2z _ _ _ _ L.length hn rfl W _ (hid (z17 B g c L.length L rfl hn hd (hid λt u ht hu=>by
   have st:=hnr t ht;have su:=hnr u hu;refine⟨Geo.cmpR (t.2:Rat) (u.2:Rat),?_,λV hV=>z5e _ _ _ _ _ (hid λU hU=>?_) V (hid hV)⟩
   ·have hc:=Geo.zaw (t.2:Rat) (u.2:Rat)
    have e:(t.2<u.2)↔(t.2:Rat)<(u.2:Rat):=by constructor<;>intro h<;>exact_mod_cast h
    rw[decide_eq_decide,e];grind
   ·have:=zgq (t.2:Rat) (u.2:Rat) 90 90 (by omega) (by omega) (by omega) st su U hU
    rw[zhe,zhe] at this;exact this) W HW hB (hid h)))
theorem zyf {α:Type} (p:α->Bool):∀l:List α,(∀c∈l,p c=false)\/∃(j:Nat) (c:α),l[j]? =some c/\p c=true/\∀(i:Nat) (d:α),i<j->l[i]? =some d->p d=false
 |[]=>.inl λc h=>(by cases h)
 |a::l=>by
  cases e:p a
  ·rcases zyf p l with h|⟨j,c,h1,h2,h3⟩
   ·left
    intro c hc;rcases List.mem_cons.1 hc with rfl|hc
    ·exact e
    ·exact h c hc
   ·right
    refine⟨j+1,c,by simpa using h1,h2,λi d hi hd=>?_⟩
    cases i with
    |zero=>simp at hd;subst hd;exact e
    |succ i=>exact h3 i d (by omega) (by simpa using hd)
  ·exact .inr ⟨0,a,rfl,e,λi d hi=>by omega⟩
instance szDec (q:Rat) (k:Nat):Decidable (sz q k):=inferInstanceAs (Decidable (_/\_))
end
section
open Go.RowKit Go.Shelf Lib Str Limb Geo
attribute [local go_sem] Oper.semAt_some
end
section
open Go.RowKit Go.Shelf Lib Str Limb
open Go.ChangeShapes Go.WideShapes Go.ChangeAt
theorem z80 {l:List (String×DataW Unit)} {W:zA} (hL:laidMet zF l W) (hm:("kingpost/surd.signPlaces",Rows.laid_kingpost_surd_signPlaces)∈l):Spw W:=by
 obtain⟨g,t,cs,fuel,p,hg,ht,hv,hd⟩:=Lib.laidMet.reads hL hm;obtain rfl:g=0:=Option.some.inj (hg.symm.trans (by kernel_rfl));obtain rfl:t=170:=Option.some.inj (ht.symm.trans (by kernel_rfl));have e:(Rows.laid_kingpost_surd_signPlaces:DataW Unit)=Lib.tabData .i64 [4,16,64]:=by kernel_rfl
 rw[e] at hd;have hc:=Lib.cells_of_tab (n:=3) Tryz.underlying170 Tryz.underlying3 (by kernel_rfl) (by kernel_rfl) hd;obtain rfl:cs=spV:=Array.toList_inj.1 (hc.trans (by kernel_rfl));exact⟨hv⟩
end
end Go.Proofs.YtnjiiafnneillaaGreatDoor
