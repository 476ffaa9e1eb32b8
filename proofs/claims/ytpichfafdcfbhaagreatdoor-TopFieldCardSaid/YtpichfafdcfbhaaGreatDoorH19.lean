/- surd.floor, by its contracts and of any term. -/
import Derived.Test.YtpichfafdcfbhaaGreatDoorH18
set_option maxRecDepth 100000
set_option maxHeartbeats 8000000
open Go renaming World → zA, Calls → zC
open Go.Lib renaming decDigits → zD, itoa → zE
open Go.Proofs.Tryz renaming prog → zF
open Go.World renaming alloc_heap_new → zG, size_alloc → zH
open Go.IntWalk renaming i64_in → zI
open Go.Joins renaming cell_of_block → zJ, block_setCell → zK
open Go.RowKit renaming intOf → zL
open Go.RowKit.Below renaming refl → zM, heap_setCell → yE
open Nat renaming le_refl → zN, le_trans → zO, zero_le → zR
namespace Go.Proofs.YtpichfafdcfbhaaGreatDoor
open Go.RowKit Go.Shelf Lib Str Limb
attribute [local go_sem] Oper.semAt_some
theorem z3j (c r d a1 a2 ten a3 rt q rest res:List UInt8) (n again zb:ByteArray) (hzb:zb.size<=1000) (ps:Nat) (hps:ps<=100) (n0:0<n.size) (ng:Bool)
 (hng:(((n[0]'n0).toNat:Int)==45)=ng)
 (P:Hid (qK 11 #[St c] (.tuple #[.string n,St d,.int .i64 0])))
 (M1:Hid (qK 33 #[.string n,.string n] (.tuple #[St a1,.int .i64 0])))
 (M2:Hid (qK 33 #[St a1,St r] (.tuple #[St a2,.int .i64 0])))
 (RP:Hid (∀W:zA,qJ 123 #[.string ⟨#[48]⟩,.int .i64 (2*(ps:Int))] W (.string zb)))
 (TN:Hid ((⟨#[49]⟩:ByteArray)++zb=⟨ten.toArray⟩))
 (M3:Hid (qK 33 #[St a2,St ten] (.tuple #[St a3,.int .i64 0])))
 (R:Hid (qK 149 #[St a3] (.tuple #[St rt,.int .i64 0])))
 (D:Hid (qK 76 #[St rt,St d] (.tuple #[St q,St rest,.int .i64 0])))
 (hpos:ng=false->q=res)
 (M4:Hid (ng=true->qK 33 #[St rt,St rt] (.tuple #[.string again,.int .i64 0])))
 (E:Hid (ng=true->((again.toList==a3)=true/\(rest==[48])=true/\qK 150 #[.string ⟨#[48]⟩,St q] (.tuple #[St res,.int .i64 0]))\/
   (((again.toList==a3)=false\/(rest==[48])=false)/\∃q1,(qK 30 #[St q,.string ⟨#[49]⟩] (.tuple #[St q1,.int .i64 0]))/\qK 150 #[.string ⟨#[48]⟩,St q1] (.tuple #[St res,.int .i64 0]))))
 (w:zA) (HW:Hid (Wd w)):
 qJ 106 #[.agg #[St c,St r],.int .i64 (ps:Int)] w (St res):=by
 have hw2:IntKind.i64.wrap (2*(ps:Int))=2*(ps:Int):=zI _ (by omega)
 obtain⟨v1,hv⟩:∃v1,v1=w.alloc (.cells #[St c,St r] 51):=⟨_,rfl⟩
 have a1':qL w v1:=by rw[hv];exact(zM _ w).alloc (zN _) _
 have A1:v1.heap[w.heap.size]? =some (.cells #[St c,St r] 51 (0,0)):=by rw[hv];exact zG w _
 have k0:v1.cell? ⟨w.heap.size,0,none⟩=some (St c):=by rw[zJ A1];rfl
 rw[hv] at k0
 have HV1:=hid hv.symm
 have E1:=hid a1'
 have B1:=hid A1
 clear hv a1' A1
 go_enter Tryz.func106,Tryz.ntmps106
 go_wp2_with fail
 rw[HV1.out]
 clear k0 HV1
 refine(P.out v1 (HW.out.below E1.out)).mono ?_
 rintro e y1 ⟨rfl,hb1⟩
 have E2:=hid (E1.out.trans (hb1.mono E1.out.size));have B2:=hid (zac hb1 _ _ _ _ B1.out)
 clear hb1 E1 B1
 go_wp2_with fail
 refine(M1.out y1 (HW.out.below E2.out)).mono ?_
 rintro e y2 ⟨rfl,hb1⟩
 have E3:=hid (E2.out.trans (hb1.mono E2.out.size));have B3:=hid (zac hb1 _ _ _ _ B2.out)
 clear hb1 E2 B2
 have k1:y2.cell? ⟨w.heap.size,1,none⟩=some (St r):=by rw[zJ B3.out];rfl
 go_wp2_with fail
 refine(M2.out y2 (HW.out.below E3.out)).mono ?_
 rintro e y3 ⟨rfl,hb1⟩
 have E4:=hid (E3.out.trans (hb1.mono E3.out.size))
 clear hb1 E3 B3 k1
 go_wp2_with fail
 refine(RP.out y3).mono ?_
 rintro e y4 ⟨rfl,hb1⟩
 have E5:=hid (E4.out.trans (hb1.mono E4.out.size))
 clear hb1 E4
 go_wp2_with fail
 rw[TN.out]
 refine(M3.out y4 (HW.out.below E5.out)).mono ?_
 rintro e y5 ⟨rfl,hb1⟩
 have E6:=hid (E5.out.trans (hb1.mono E5.out.size))
 clear hb1 E5
 go_wp2_with fail
 refine(R.out y5 (HW.out.below E6.out)).mono ?_
 rintro e y6 ⟨rfl,hb1⟩
 have E7:=hid (E6.out.trans (hb1.mono E6.out.size))
 clear hb1 E6
 go_wp2_with fail
 refine(D.out y6 (HW.out.below E7.out)).mono ?_
 rintro e y7 ⟨rfl,hb1⟩
 have E8:=hid (E7.out.trans (hb1.mono E7.out.size))
 clear hb1 E7
 cases ng
 ·obtain rfl:=hpos rfl
  clear M4 E
  go_wp2_with fail
  go_ret
  exact⟨rfl,E8.out⟩
 ·have HM4:=hid (M4.out rfl);have HE:=hid (E.out rfl)
  clear M4 E hpos
  go_wp2_with fail
  refine(HM4.out y7 (HW.out.below E8.out)).mono ?_
  rintro e y8 ⟨rfl,hb1⟩
  have E9:=hid (E8.out.trans (hb1.mono E8.out.size))
  clear hb1 E8 HM4
  rcases HE.out with⟨e1,e2,hs⟩|⟨e1,q1,ha,hs⟩
  ·have HS:=hid hs;clear HE hs
   go_wp2_with fail
   refine(HS.out y8 (HW.out.below E9.out)).mono ?_
   rintro e y9 ⟨rfl,hb1⟩
   have F1:=hid (E9.out.trans (hb1.mono E9.out.size))
   clear hb1
   go_wp2_with fail
   go_ret
   exact⟨rfl,F1.out⟩
  ·have HS:=hid hs;have HA:=hid ha;clear HE hs ha
   rcases e1 with e1|e1
   ·go_wp2_with fail
    refine(HA.out y8 (HW.out.below E9.out)).mono ?_
    rintro e z1 ⟨rfl,hb1⟩
    have F1:=hid (E9.out.trans (hb1.mono E9.out.size))
    clear hb1
    go_wp2_with fail
    refine(HS.out z1 (HW.out.below F1.out)).mono ?_
    rintro e z2 ⟨rfl,hb1⟩
    have F2:=hid (F1.out.trans (hb1.mono F1.out.size))
    clear hb1
    go_wp2_with fail
    go_ret
    exact⟨rfl,F2.out⟩
   ·cases e2:(again.toList==a3)
    ·go_wp2_with fail
     refine(HA.out y8 (HW.out.below E9.out)).mono ?_
     rintro e z1 ⟨rfl,hb1⟩
     have F1:=hid (E9.out.trans (hb1.mono E9.out.size))
     clear hb1
     go_wp2_with fail
     refine(HS.out z1 (HW.out.below F1.out)).mono ?_
     rintro e z2 ⟨rfl,hb1⟩
     have F2:=hid (F1.out.trans (hb1.mono F1.out.size))
     clear hb1
     go_wp2_with fail
     go_ret
     exact⟨rfl,F2.out⟩
    ·go_wp2_with fail
     refine(HA.out y8 (HW.out.below E9.out)).mono ?_
     rintro e z1 ⟨rfl,hb1⟩
     have F1:=hid (E9.out.trans (hb1.mono E9.out.size))
     clear hb1
     go_wp2_with fail
     refine(HS.out z1 (HW.out.below F1.out)).mono ?_
     rintro e z2 ⟨rfl,hb1⟩
     have F2:=hid (F1.out.trans (hb1.mono F1.out.size))
     clear hb1
     go_wp2_with fail
     go_ret
     exact⟨rfl,F2.out⟩
def floT (c:Rat) (s N:Nat):Int:=if c.num<0 then-((s/c.den+(if s*s=N/\s%c.den=0 then 0 else 1):Nat):Int) else((s/c.den:Nat):Int)
theorem z3u (x y:Nat) (hx:(zD x).length<=300) (hy:(zD y).length<=300) (hxy:(zD (x*y)).length<=300) (w:zA) (hw:Wd w):
 qJ 33 #[St (zD x),St (zD y)] w (.tuple #[St (zD (x*y)),.int .i64 0]):=by
 have hz:digs ((x:Int)*(y:Int))<=300:=by rw[<-Int.natCast_mul,zd9];exact hxy
 have:=zhk (x:Int) (y:Int) (by rw[zd9];exact hx) (by rw[zd9];exact hy) w hw
 rw[zcf hz,zcg hz,<-Int.natCast_mul,Str.zad,Str.zad,Str.zad] at this
 exact this
theorem zva (x y:Int) (hx:digs x<=300) (hy:digs y<=300) (hxy:digs (x+y)<=300) (w:zA) (hw:Wd w):
 qJ 30 #[St (zE x),St (zE y)] w (.tuple #[St (zE (x+y)),.int .i64 0]):=by
 have:=z1c x y hx hy w hw
 rwa [zcf hxy,zcg hxy] at this
theorem z6j (x y:Int) (hx:digs x<=300) (hy:digs y<=300) (hxy:digs (x-y)<=300) (w:zA) (hw:Wd w):
 qJ 150 #[St (zE x),St (zE y)] w (.tuple #[St (zE (x-y)),.int .i64 0]):=by
 have:=z1e x y hx hy w hw
 rwa [zcf hxy,zcg hxy] at this
theorem z6a (x:Int) (h0:0<(⟨(zE x).toArray⟩:ByteArray).size):((((⟨(zE x).toArray⟩:ByteArray)[0]'h0).toNat:Int)==45)=decide (x<0):=by
 obtain⟨s1,s2,s3,s4⟩:=zco (zE x) (by rcases zbg x with⟨_,e⟩|⟨_,e⟩<;>rw[e];exact zci _;simp) _ rfl
 rw[s4 h0]
 rcases zbg x with⟨hx,e⟩|⟨hx,e⟩
 ·obtain⟨c,r,hd,hc1,hc2⟩:=dec_head x.natAbs
  rw[decide_eq_false (by omega),beq_eq_false_iff_ne]
  simp only[e,hd,List.head_cons];omega
 ·rw[decide_eq_true (by omega)]
  simp only[e,List.head_cons];rfl
theorem zul (c:Rat) (r ps s N:Nat) (hoc:okQ c) (hc0:c≠0) (hr:0<r) (hps:ps<=100) (hN:c.num.natAbs*c.num.natAbs*r*10^(2*ps)=N) (hl:(zD N).length<=200) (hs:s*s<=N/\N<(s+1)*(s+1)) (w:zA) (hw:Wd w):
 qJ 106 #[.agg #[St (numS c),St (zD r)],.int .i64 (ps:Int)] w (St (zE (floT c s N))):=by
 obtain⟨n,hn⟩:∃n,n=c.num.natAbs:=⟨_,rfl⟩
 have n0:0<n:=by
  have:c.num≠0:=λe=>hc0 (Rat.num_eq_zero.1 e)
  omega
 obtain⟨t,ht⟩:∃t,t=10^(2*ps):=⟨_,rfl⟩
 have t0:0<t:=by rw[ht];exact Nat.pos_of_ne_zero (by simp)
 rw[<-hn,<-ht] at hN
 have le1:n<=n*n:=Nat.le_mul_self n
 have le2:n*n<=n*n*r:=Nat.le_mul_of_pos_right _ hr
 have le3:n*n*r<=n*n*r*t:=Nat.le_mul_of_pos_right _ t0
 have le4:r<=n*n*r:=Nat.le_mul_of_pos_left _ (Nat.mul_pos n0 n0)
 have le5:t<=n*n*r*t:=Nat.le_mul_of_pos_left _ (Nat.mul_pos (Nat.mul_pos n0 n0) hr)
 rw[hN] at le3 le5
 have len:∀{m:Nat},m<=N->(zD m).length<=300:=λh=>by have:=zt9 h;omega
 have hsN:s<=N:=z6f hs.1
 have hsd:=Nat.div_le_self s c.den
 have hN200:N<10^200:=(zaf N 200 (by omega)).1 hl
 have p1:(10:Nat)^200+1<10^201:=by decide+kernel
 have dlen:∀z:Int,z.natAbs<=N+1->digs z<=300:=λz hz=>by
  have:=(zaf z.natAbs 201 (by omega)).2 (by omega)
  unfold digs;omega
 have hneg:∀k:Nat,k<=N+1->((0:Int)-(k:Int)).natAbs<=N+1:=λk h=>by omega
 have hpos:∀k:Nat,k<=N->((k:Int)+1).natAbs<=N+1:=λk h=>by omega
 have z48:zE 0=[48]:=zb9
 have z49:zE 1=[49]:=by rw[show(1:Int)=((1:Nat):Int) from rfl,Str.zad,zae (by omega)];rfl
 have hdl:(zD c.den).length<=300:=hoc.2
 have hrep:=λW=>Tryz.strings_Repeat ⟨#[48]⟩ (2*ps) W (by omega) (by show 1*(2*ps)<=_;omega)
 have hi0:0<(⟨(zE c.num).toArray⟩:ByteArray).size:=(zco (zE c.num) (by rcases zbg c.num with⟨_,e⟩|⟨_,e⟩<;>rw[e];exact zci _;simp) _ rfl).2.1
 refine z3j (numS c) (zD r) (zD c.den) (zD (n*n)) (zD (n*n*r)) (zD t) (zD N) (zD s) (zD (s/c.den)) (zD (s%c.den)) (zE (floT c s N)) ⟨(zE c.num).toArray⟩ ⟨(zD (s*s)).toArray⟩ ⟨(Lib.repeatL [48] (2*ps)).toArray⟩ (by show(Lib.repeatL [48] (2*ps)).toArray.size<=1000;rw[zhy];simp;omega) ps hps hi0 (decide (c.num<0)) (z6a c.num hi0)
  (hid λW hW=>zk5 c hoc W hW) (hid λW hW=>?_) (hid λW hW=>z3u _ _ (len (by omega)) (len (by omega)) (len le3) W hW) (hid λW=>?_) (hid ?_) (hid λW hW=>?_) (hid λW hW=>zvx N s hs hl W hW) (hid λW hW=>zzn s c.den c.den_pos (len hsN) hdl W hW)
  (λh=>?_) (hid λ_ W hW=>z3u _ _ (len hsN) (len hsN) (len hs.1) W hW) (hid λh=>?_) w (hid hw)
 ·have hz:digs (c.num*c.num)<=300:=dlen _ (by rw[Int.natAbs_mul,<-hn];omega)
  have:=zhk c.num c.num hoc.1 hoc.1 W hW
  rw[zcf hz,zcg hz,<-Int.natAbs_mul_self,Str.zad,<-hn] at this
  exact this
 ·have:=hrep W
  exact this
 ·rw[ht,z13,zhy]
  exact z7h [49] (List.replicate (2*ps) 48)
 ·have:=z3u (n*n*r) t (len le3) (len le5) (len (by omega)) W hW
  rw[hN] at this;exact this
 ·have h':¬c.num<0:=by simpa using h
  unfold floT;rw[if_neg h',Str.zad]
 ·have h':c.num<0:=by simpa using h
  have hN0:(zD (s*s)).toArray.toList=zD (s*s):=by simp
  by_cases e:s*s=N/\s%c.den=0
  ·left
   refine⟨by rw[ByteArray.toList_eq,e.1];simp,by rw[e.2,zae (by omega)];rfl,λW hW=>?_⟩
   have:=z6j 0 ((s/c.den:Nat):Int) (by rw[show(0:Int)=((0:Nat):Int) from rfl];exact dlen _ (by omega)) (dlen _ (by rw[Int.natAbs_natCast];omega)) (dlen _ (hneg _ (by omega))) W hW
   rw[z48,Str.zad] at this
   unfold floT;rw[if_pos h',if_pos e,Nat.add_zero,<-Int.zero_sub]
   exact this
  ·right
   refine⟨?_,zD (s/c.den+1),λW hW=>?_,λW hW=>?_⟩
   ·by_cases e1:s*s=N
    ·right
     have e2:s%c.den≠0:=λk=>e ⟨e1,k⟩
     rw[beq_eq_false_iff_ne,<-z48,<-Str.zad]
     exact λk=>e2 (by have:=zdo k;omega)
    ·left
     rw[ByteArray.toList_eq,beq_eq_false_iff_ne,hN0,<-Str.zad,<-Str.zad]
     exact λk=>e1 (by have:=zdo k;omega)
   ·have:=zva ((s/c.den:Nat):Int) 1 (dlen _ (by rw[Int.natAbs_natCast];omega)) (dlen _ (by show(1:Nat)<=_;omega)) (dlen _ (hpos _ (by omega))) W hW
    rw[z49,show((s/c.den:Nat):Int)+1=((s/c.den+1:Nat):Int) by omega,Str.zad,Str.zad] at this
    exact this
   ·have:=z6j 0 ((s/c.den+1:Nat):Int) (by rw[show(0:Int)=((0:Nat):Int) from rfl];exact dlen _ (by omega)) (dlen _ (by rw[Int.natAbs_natCast];omega)) (dlen _ (hneg _ (by omega))) W hW
    rw[z48,Str.zad] at this
    unfold floT;rw[if_pos h',if_neg e,<-Int.zero_sub]
    exact this
def spV:Array Value:= #[.int .i64 4,.int .i64 16,.int .i64 64]
structure Spw (w:zA):Prop where
 pl:w.var? zF "kingpost/surd.signPlaces" =some spV
theorem Spw.below {w w':zA} (h:Spw w) (hb:qL w w'):Spw w':=by
 have hg:Tryz.prog.globalNamed "kingpost/surd.signPlaces" =some 0:=by kernel_rfl
 exact⟨var?_below hb hg (zv5 hg h.pl) h.pl⟩
theorem Spw.block {w:zA} (h:Spw w):∃t fz,w.heap[0]? =some (.cells spV t fz):=by
 have hg:Tryz.prog.globalNamed "kingpost/surd.signPlaces" =some 0:=by kernel_rfl
 have hv:=h.pl
 unfold World.var? at hv
 rw[hg] at hv
 simp only[Option.bind_some] at hv
 cases hb:w.heap[(0:Nat)]? with
 |none=>rw[hb] at hv;cases hv
 |some x=>
  rw[hb] at hv
  cases x with
  |cells cs t fz=>simp at hv;subst hv;exact⟨t,fz,rfl⟩
  |_=>cases hv
def plN:Nat->Nat
 |0=>4
 |1=>16
 |_=>64
theorem z8x (i:Nat) (hi:i<3) (w:zA):(Instr.index 143 (.agg spV) (.int .i64 (i:Int))).run zF w=.ok (.int .i64 (plN i:Int)) w:=
 match i,hi with
 |0,_=>by kernel_rfl
 |1,_=>by kernel_rfl
 |2,_=>by kernel_rfl
theorem z3w (p:Option Addr) (cap n:Nat) (h0:0<n) (hn:n<=100) (X Y F S T:Nat->List UInt8) (c m sg:Int) (hS0:S 0=[48])
 (FL:Hid (∀i,i<n->qK 106 #[.agg #[St (X i),St (Y i)],.int .i64 4] (St (F i))))
 (AD:Hid (∀i,i<n->qK 30 #[St (S i),St (F i)] (.tuple #[St (S (i+1)),.int .i64 0])))
 (CM:Hid (qK 13 #[St (S n),.string ⟨#[48]⟩] (.tuple #[.int .i64 c,.int .i64 0])))
 (HS:Hid ((decide (0<c)=true/\sg=1)\/(decide (0<c)=false/\sg= -1/\T 0=S n/\decide (m<0)=true/\(∀i,i<n->qK 30 #[St (T i),.string ⟨#[49]⟩] (.tuple #[St (T (i+1)),.int .i64 0]))/\qK 13 #[St (T n),.string ⟨#[48]⟩] (.tuple #[.int .i64 m,.int .i64 0]))))
 (w:zA) (HW:Hid (Wd w)) (HP:Hid (Spw w))
 (HT:Hid (∀i,i<n->∃b off,p=some ⟨b,off,none⟩/\b<w.heap.size/\w.cell? ⟨b,off+i*2,none⟩=some (St (X i))/\w.cell? ⟨b,off+i*2+1,none⟩=some (St (Y i)))):
 qJ 54 #[.slice p n cap] w (.tuple #[.int .i64 sg,.int .i64 0]):=by
 obtain⟨tt,fz,hblk⟩:=HP.out.block
 have hx:∀w,(Instr.index 143 (.agg spV) (.int .i64 0)).run zF w=.ok (.int .i64 4) w:=λw=>z8x 0 (by omega) w
 have hz:((n:Int)==0)=false:=by rw[beq_eq_false_iff_ne];omega
 have D0:=hid (zM w.heap.size w)
 go_enter Tryz.func54,Tryz.ntmps54
 go_wp2_with (refine wpList_load_row rfl 143 (.global 0) rfl 0 rfl tt spV fz (.array 3 3) hblk (by kernel_rfl) rfl (by kernel_rfl) ?_)
 refine wp_loop_rounds 1 ?_
 rw[rounds_succ]
 go_wp2_with fail
 clear hblk hx
 have hS:Value.string ⟨#[48]⟩=St (S 0):=by rw[hS0]
 rw[hS]
 clear hS hS0
 go_loopw [6,23] (λv i wr=>∃(k:Nat),k<=n/\i=.int .i64 (k:Int)/\v=St (S k)/\Hid (qL w wr))
  (λ_ i _=>n-(zL i).toNat)
 case atStart=>exact⟨0,zR _,rfl,rfl,D0⟩
 case round=>
  obtain⟨k,hk,rfl,rfl,D1⟩:=hrel
  by_cases hlt:k<n
  ·obtain⟨b,off,rfl,hb,c0,c1⟩:=HT.out k hlt
   have t0:wr.cell? ⟨b,off+k*2,none⟩=some (St (X k)):=by rw[D1.out.cell (p:=⟨b,off+k*2,none⟩) hb];exact c0
   have t1:wr.cell? ⟨b,off+k*2+1,none⟩=some (St (Y k)):=by rw[D1.out.cell (p:=⟨b,off+k*2+1,none⟩) hb];exact c1
   have M1:=hid (FL.out k hlt)
   have M2:=hid (AD.out k hlt)
   generalize X k=x at*
   generalize Y k=y at*
   generalize F k=z at*
   generalize S k=sk at*
   obtain⟨v1,hv⟩:∃v1,v1=wr.alloc (.cells #[St x,St y] 51):=⟨_,rfl⟩
   have a1:qL wr v1:=by rw[hv];exact(zM _ wr).alloc (zN _) _
   have A1:v1.heap[wr.heap.size]? =some (.cells #[St x,St y] 51 (0,0)):=by rw[hv];exact zG wr _
   have k0:v1.cell? ⟨wr.heap.size,0,none⟩=some (St x):=by rw[zJ A1];rfl
   have k1:v1.cell? ⟨wr.heap.size,1,none⟩=some (St y):=by rw[zJ A1];rfl
   rw[hv] at k0 k1
   have HV1:=hid hv.symm
   have E1:=hid (D1.out.trans (a1.mono D1.out.size))
   clear hv a1 A1 c0 c1 hb
   go_wp2_with fail
   rw[HV1.out]
   clear t0 t1 k0 k1 HV1
   refine(M1.out v1 (HW.out.below E1.out)).mono ?_
   rintro e u1 ⟨rfl,hb1⟩
   have E2:=hid (E1.out.trans (hb1.mono E1.out.size))
   clear hb1 E1 M1
   go_wp2_with fail
   refine(M2.out u1 (HW.out.below E2.out)).mono ?_
   rintro e u2 ⟨rfl,hb1⟩
   have E3:=hid (E2.out.trans (hb1.mono E2.out.size))
   clear hb1 E2 M2
   go_wp2_with fail
   go_roundw
   case rel=>exact⟨k+1,by omega,by go_num,rfl,E3⟩
   case measure=>simp[zL];omega
  ·have hkn:k=n:=by omega
   subst hkn
   clear FL AD HT
   go_wp2_with fail
   refine(CM.out wr (HW.out.below D1.out)).mono ?_
   rintro e u1 ⟨rfl,hb1⟩
   have E1:=hid (D1.out.trans (hb1.mono D1.out.size))
   clear hb1 CM
   rcases HS.out with⟨h1,rfl⟩|⟨h1,rfl,hT,h2,hA,hC⟩
   ·go_wp2_with fail
    go_ret2
    exact⟨rfl,E1.out⟩
   ·have HA:=hid hA;have HC:=hid hC
    rw[<-hT]
    clear hA hC HS hT
    go_wp2_with fail
    go_loopw [6,45] (λv i wr=>∃(j:Nat),j<=k/\i=.int .i64 (j:Int)/\v=St (T j)/\Hid (qL w wr))
     (λ_ i _=>k-(zL i).toNat)
    case atStart=>exact⟨0,zR _,rfl,rfl,E1⟩
    case round=>
     obtain⟨j,hj,rfl,rfl,D2⟩:=hrel
     by_cases hlt:j<k
     ·have M2:=hid (HA.out j hlt)
      generalize T j=tj at*
      go_wp2_with fail
      refine(M2.out _ (HW.out.below D2.out)).mono ?_
      rintro e u2 ⟨rfl,hb1⟩
      have E3:=hid (D2.out.trans (hb1.mono D2.out.size))
      clear hb1 M2
      go_wp2_with fail
      go_roundw
      case rel=>exact⟨j+1,by omega,by go_num,rfl,E3⟩
      case measure=>simp[zL];omega
     ·have hjk:j=k:=by omega
      subst hjk
      go_wp2_with fail
      refine(HC.out _ (HW.out.below D2.out)).mono ?_
      rintro e u2 ⟨rfl,hb1⟩
      have E3:=hid (D2.out.trans (hb1.mono D2.out.size))
      clear hb1 HC
      go_wp2_with fail
      go_ret2
      exact⟨rfl,E3.out⟩
structure Ew (w:zA):Prop where
 wd:Wd w
 pw:Pw w
 sw:Spw w
theorem Ew.below {w w':zA} (h:Ew w) (hb:qL w w'):Ew w':=⟨h.wd.below hb,h.pw.below hb,h.sw.below hb⟩
structure Er (g:Nat) (w:zA):Prop where
 ew:Ew w
 c0:w.cell? ⟨g,0,none⟩=some (St (numS 1))
 c1:w.cell? ⟨g,1,none⟩=some (St (numS 2))
theorem Er.below {g:Nat} {w w':zA} (h:Er g w) (hb:qL w w'):Er g w':=⟨h.ew.below hb,zai hb h.c0,zai hb h.c1⟩
theorem z0q:zD 1=numS 1/\zD 2=numS 2:=⟨by rw[zfc,zae (by omega)];rfl,by rw[nm2,zae (by omega)];rfl⟩
theorem z5i (g cap:Nat) (hc:1<=cap) (W:zA) (h:Er g W):qJ 53 #[.slice (some ⟨g,0,none⟩) 1 cap] W (.int .i64 0):=by
 refine zos (some ⟨g,0,none⟩) cap 1 (λ_=>1) (λ_=>2) (z8c 1 (by decide) zb7.2.1 2 zyl.2) hc W h.ew.wd h.ew.pw λi hi=>?_
 obtain rfl:i=0:=by omega
 exact⟨g,0,rfl,h.c0,by show W.cell? ⟨g,1,none⟩=some (St (zD 2));rw[z0q.2];exact h.c1⟩
theorem z5j (a:Rat) (ha:a≠0) (sa:sz a 2) (B d:Nat) (q:Option Addr) (W:zA) (h:Ew W) (ho:W.ownsRow B 51 2 (.slice q 1 d) 1 (zbj (a2L a 1))):qJ 53 #[.slice q 1 d] W (.int .i64 0):=by
 obtain⟨hd,g,rfl, -, -, -,hx⟩:=zly ho (by omega)
 obtain⟨c0,c1⟩:=hx 0 _ rfl
 refine zos (some ⟨g,0,none⟩) d 1 (λ_=>a) (λ_=>1) ⟨by omega,λi hi=>⟨ha,sa.mono (by omega),zyl.1⟩,λi hi=>by omega,λi k h1 h2=>by omega⟩ hd W h.wd h.pw λi hi=>?_
 obtain rfl:i=0:=by omega
 exact⟨g,0,rfl,c0,by show W.cell? ⟨g,1,none⟩=some (St (zD 1));rw[z0q.1];exact c1⟩
theorem z8z (a:Rat) (ha:a≠0) (sa:sz a 2) (g cap d B:Nat) (q:Option Addr) (hc:1<=cap) (w:zA) (h:Er g w) (ho:w.ownsRow B 51 2 (.slice q 1 d) 1 (zbj (a2L a 1))):
 zC zF 61 #[.slice q 1 d,.slice (some ⟨g,0,none⟩) 1 cap] w λe w'=>∃q' d',e=.returned (.tuple #[.slice q' 2 d',.int .i64 0])/\Below w.heap.size w w'/\∃B',w'.ownsRow B' 51 2 (.slice q' 2 d') 2 (zbj (a2L a 2)):=by
 have hg:g<w.heap.size:=zbe h.c0
 have ER:=λ(W:zA) (hb:qL w W)=>h.below hb
 have KO:=λ(W:zA) (hb:qL w W)=>zcj (zac hb) ho
 obtain⟨-,g1,rfl, -,hg1,hy, -⟩:=zly ho (by omega)
 refine z5d (some ⟨g1,0,none⟩) (some ⟨g,0,none⟩) 1 1 d cap 2 2
  (λq d W=>∃B,W.ownsRow B 51 2 (.slice q 1 d) 1 (zbj [(numS (-1),numS 2)]))
  (λq d W=>∃B,W.ownsRow B 51 2 (.slice q 2 d) 2 (zbj (a2L a 2)))
  (λq d W=>∃B,W.ownsRow B 51 2 (.slice q 2 d) 2 (zbj (a2L a 2))) w (hid ?_) (hid λW hW=>?_) (hid λW q2 d2 b hW hb hR k0 k1=>?_) (hid λW q2 d2 hW hR=>?_)
 ·exact z6g _ _ (λW=>qL w W) (λW W' h h'=>h.trans (h'.mono h.size)) (hid λW hW=>z5j a ha sa B d _ W (ER W hW).ew (KO W hW)) (hid λW hW=>z5i g cap hc W (ER W hW)) w (zM _ _)
 ·have hs:=hW.size
  have hm:Hid (∀i,i<1->∀V:zA,Wd V->qJ 8 #[St (numS 1),St (numS (-1))] V (.tuple #[St (numS (-1)),.int .i64 0])):=
   hid λi _ V hV=>zlk 1 (-1) (-1) zb7.2.1 zb7.2.2.2.2.1 (by decide+kernel) V hV
  have:=z6y (some ⟨g,0,none⟩) cap 1 (λ_=>numS 1) (λ_=>numS 2) (λ_=>numS (-1)) (numS (-1)) (by omega) W (hid λV hV=>((ER W hW).below hV).ew.wd) hm (hid λi hi=>by
   obtain rfl:i=0:=by omega
   exact⟨g,0,rfl,by omega,(ER W hW).c0,(ER W hW).c1⟩)
  rw[show numS (-1)=[45,49] from nm_1] at this
  refine this.mono λe w' ⟨q2,d2,h1,h2,h3⟩=>⟨q2,d2,h1,h2,W.heap.size,?_⟩
  rw[nm_1];exact h3
 ·obtain⟨W0,hB0,⟨B2,hR⟩,hBW⟩:=hR
  have o2:=zcj (zac hBW) hR
  obtain⟨-,g2,rfl, -,hg2,hz, -⟩:=zly o2 (by omega)
  refine(z5g b g1 0 d g2 0 d2 1 1 2 [(numS a,numS 1)] [(numS (-1),numS 2)] rfl (by omega) W (hid λV=>z62 2 (by omega) (by omega) V) rfl rfl
   (hid λV hV j u hu=>by rw[Nat.zero_add];exact zai hV (zai hW (hy j u hu))) (hid λV hV j u hu=>by rw[Nat.zero_add];exact zai hV (hz j u hu)) (hid λV hV=>⟨zai hV k0,zai hV k1⟩)).mono λe w' ⟨v,h1,h2,h3⟩=>?_
  obtain⟨q',d',rfl⟩:=zpa h2
  exact⟨q',d',h1,h3,_,h2⟩
 ·obtain⟨B2,o2⟩:=hR
  obtain⟨-,g2,rfl, -,hg2, -,hx⟩:=zly o2 (by omega)
  have E:=ER W hW
  refine(z6i a ha sa 2 (by omega) (by omega) (some ⟨g2,0,none⟩) d2 W (hid λV hV=>(E.below hV).ew.wd) (hid λV hV=>(E.below hV).ew.pw) (hid λi hi=>?_)).mono λe w' ⟨q',d',h1,h2,h3⟩=>⟨q',d',h1,h2,_,h3⟩
  obtain⟨c0,c1⟩:=hx 0 _ rfl
  obtain⟨c2,c3⟩:=hx 1 _ rfl
  match i,hi with
  |0,_=>exact⟨g2,0,rfl,hg2,c0,c1⟩
  |1,_=>exact⟨g2,0,rfl,hg2,c2,c3⟩
theorem z8p (a:Rat) (ha:0<a) (sa:sz a 2) (s:Nat) (hs:s*s=a.num.natAbs*a.num.natAbs*1*10^(2*4)) (m:Int) (hm:((s/a.den:Nat):Int)=m) (W:zA) (hW:Wd W):
 qJ 106 #[.agg #[St (numS a),St (numS 1)],.int .i64 4] W (St (zE m)):=by
 have hn:¬a.num<0:=by have:=Rat.num_nonneg.2 (Rat.le_of_lt ha);omega
 have h1:=sa.1
 have h2:a.num.natAbs*a.num.natAbs<10^(2+2):=zcc h1 h1
 have h3:a.num.natAbs*a.num.natAbs*1*10^(2*4)<10^13:=by
  have:a.num.natAbs*a.num.natAbs*1*10^(2*4)<=10^(2+2)*10^(2*4):=Nat.mul_le_mul_right _ (by omega)
  exact Nat.lt_of_le_of_lt this (by decide)
 have:=zul a 1 4 s _ (zd0 (by omega) (by omega) sa) (by grind) (by omega) (by omega) rfl (zO (zil (by omega) h3) (by omega)) ⟨Nat.le_of_eq hs,by rw[<-hs];exact Nat.mul_lt_mul_of_lt_of_lt (by omega) (by omega)⟩ W hW
 rw[z0q.1] at this
 unfold floT at this
 rw[if_neg hn,hm] at this
 exact this
theorem z8h (W:zA) (hW:Wd W):
 qJ 106 #[.agg #[St (numS (-1)),St (numS 2)],.int .i64 4] W (St (zE (-14143))):=by
 have:=zul (-1) 2 4 14142 200000000 (zm5 zb7.2.2.2.2.1) (by decide) (by omega) (by omega) (by decide+kernel) (zO (zil (k:=10) (by omega) (by omega)) (by omega)) ⟨by omega,by omega⟩ W hW
 rw[z0q.2] at this
 unfold floT at this
 rw[if_pos (by decide),if_neg (by omega),show((14142/(-1:Rat).den+1:Nat):Int)=14143 by decide+kernel] at this
 exact this
def sgS (m:Int):Nat->Int
 |0=>0
 |1=>m
 |_=>m-14143
theorem z8q (a:Rat) (ha:0<a) (sa:sz a 2) (s:Nat) (hs:s*s=a.num.natAbs*a.num.natAbs*1*10^(2*4)) (m:Int) (hm:((s/a.den:Nat):Int)=m) (hm2:m<100000) (sg:Int) (hsg:(14143<m/\sg=1)\/(m<14141/\sg= -1))
 (B d:Nat) (q:Option Addr) (w:zA) (h:Ew w) (ho:w.ownsRow B 51 2 (.slice q 2 d) 2 (zbj (a2L a 2))):
 qJ 54 #[.slice q 2 d] w (.tuple #[.int .i64 sg,.int .i64 0]):=by
 obtain⟨-,g2,rfl, -,hg2, -,hx⟩:=zly ho (by omega)
 obtain⟨c0,c1⟩:=hx 0 _ rfl
 obtain⟨c2,c3⟩:=hx 1 _ rfl
 have hm0:0<=m:=by rw[<-hm];exact Int.natCast_nonneg _
 have dz:∀z:Int, -1000000<z->z<1000000->digs z<=300:=λz h1 h2=>zO (zhd (k:=6) (by omega) (by show z.natAbs<1000000;omega)) (by omega)
 have z48:zE 0=[48]:=zb9
 have z49:zE 1=[49]:=by rw[show(1:Int)=((1:Nat):Int) from rfl,Str.zad,zae (by omega)];rfl
 have hcmp:∀z:Int, -1000000<z->z<1000000->qK 13 #[St (zE z),.string ⟨#[48]⟩] (.tuple #[.int .i64 (cmpZ z 0),.int .i64 0]):=λz h1 h2 W _=>by
  have:=zsx z 0 (dz z h1 h2) (dz 0 (by omega) (by omega)) W
  rw[z48] at this;exact this
 have hadd1:∀z:Int, -100000<z->z<100000->qK 30 #[St (zE z),.string ⟨#[49]⟩] (.tuple #[St (zE (z+1)),.int .i64 0]):=λz h1 h2 W hW=>by
  have:=zva z 1 (dz z (by omega) (by omega)) (dz 1 (by omega) (by omega)) (dz _ (by omega) (by omega)) W hW
  rw[z49] at this;exact this
 refine z3w (some ⟨g2,0,none⟩) d 2 (by omega) (by omega) (a2X a) a2Y (λi=>if i=0 then zE m else zE (-14143)) (λi=>zE (sgS m i)) (λi=>zE (m-14143+i)) (cmpZ (m-14143) 0) (cmpZ (m-14143+2) 0) sg z48
  (hid λi hi W hW=>?_) (hid λi hi W hW=>?_) (hid λW hW=>hcmp (m-14143) (by omega) (by omega) W hW) (hid ?_) w (hid h.wd) (hid h.sw) (hid λi hi=>?_)
 ·match i,hi with
  |0,_=>exact z8p a ha sa s hs m hm W hW
  |1,_=>exact z8h W hW
 ·match i,hi with
  |0,_=>
   have:=zva 0 m (dz _ (by omega) (by omega)) (dz _ (by omega) (by omega)) (dz _ (by omega) (by omega)) W hW
   rw[Int.zero_add] at this;exact this
  |1,_=>exact zva m (-14143) (dz _ (by omega) (by omega)) (dz _ (by omega) (by omega)) (dz _ (by omega) (by omega)) W hW
 ·rcases hsg with⟨h1,h2⟩|⟨h1,h2⟩
  ·left
   refine⟨?_,h2⟩
   unfold cmpZ;rw[if_neg (by omega),if_pos (by omega)];rfl
  ·right
   refine⟨?_,h2,?_,?_,λi hi W hW=>?_,λW hW=>hcmp (m-14143+2) (by omega) (by omega) W hW⟩
   ·unfold cmpZ;rw[if_pos (by omega)];rfl
   ·show zE (m-14143+((0:Nat):Int))=zE (m-14143)
    rw[show m-14143+((0:Nat):Int)=m-14143 by omega]
   ·unfold cmpZ;rw[if_pos (by omega)];rfl
   ·have:=hadd1 (m-14143+(i:Int)) (by omega) (by omega) W hW
    rw[show m-14143+(i:Int)+1=m-14143+((i+1:Nat):Int) by omega] at this
    exact this
 ·match i,hi with
  |0,_=>exact⟨g2,0,rfl,hg2,c0,c1⟩
  |1,_=>exact⟨g2,0,rfl,hg2,c2,c3⟩
theorem z3x (a:Rat) (ha:0<a) (sa:sz a 2) (s:Nat) (hs:s*s=a.num.natAbs*a.num.natAbs*1*10^(2*4)) (m:Int) (hm:((s/a.den:Nat):Int)=m) (hm2:m<100000) (sg:Int) (hsg:(14143<m/\sg=1)\/(m<14141/\sg= -1))
 (g cap:Nat) (hc:1<=cap) (w:zA) (h:Er g w):
 qJ 122 #[.slice (some ⟨g,0,none⟩) 1 cap,St (numS a)] w (.tuple #[.int .i64 (-sg),.int .i64 0]):=by
 have ha0:a≠0:=by grind
 have ER:=λ(W:zA) (hb:qL w W)=>h.below hb
 refine z4m _ (numS a) 1 sg (by omega) (by omega) (λq d W=>∃B,W.ownsRow B 51 2 (.slice q 1 d) 1 (zbj (a2L a 1))) w (hid λW hW k0 k1=>?_) (hid λW q d hW hR=>?_)
 ·have hl:=zbe k0
  refine(z6i a ha0 sa 1 (by omega) (by omega) _ 1 W (hid λV hV=>((ER W hW).below hV).ew.wd) (hid λV hV=>((ER W hW).below hV).ew.pw) (hid λi hi=>?_)).mono λe w' ⟨q',d',h1,h2,h3⟩=>⟨q',d',h1,h2,_,h3⟩
  obtain rfl:i=0:=by omega
  exact⟨w.heap.size,0,rfl,hl,k0,by show W.cell? ⟨w.heap.size,1,none⟩=some (St (numS 1));rw[zfc];exact k1⟩
 ·obtain⟨B,hR⟩:=hR
  refine zxd _ _ 2 sg (λq d W=>∃B,W.ownsRow B 51 2 (.slice q 2 d) 2 (zbj (a2L a 2))) W (hid (z8z a ha0 sa g cap d B q hc W (ER W hW) hR)) (hid λV q' d' hV hR'=>?_)
  obtain⟨B',hR'⟩:=hR'
  exact z8q a ha sa s hs m hm hm2 sg hsg B' d' q' V ((ER W hW).below hV).ew hR'
theorem z7v (p:Option Addr) (cap n:Nat) (X Y:Nat->ByteArray) (hl:n<=5000)
 (F:Hid (∀i,i<n->∀W:zA,Wd W->zC zF 119 #[.agg #[.string (X i),.string (Y i)]] W (BolQ W false)))
 (w:zA) (HW:Hid (Wd w)) (HP:Hid (RowTm p n X Y w)):
 qJ 99 #[.slice p n cap,.func (.func 119) #[] #[]] w (.int .i64 (-1)):=by
 go_enter Tryz.func99,Tryz.ntmps99
 go_wp2
 go_loopw [8] (λi wr=>∃(k:Nat),k<=n/\i=.int .i64 (k:Int)/\Hid (qL w wr))
  (λi _=>n-(zL i).toNat)
 case atStart=>exact⟨0,zR _,rfl,zM _ _⟩
 case round=>
  obtain⟨k,hk,rfl,hB⟩:=hrel
  by_cases hlt:k<n
  ·obtain⟨b,off,rfl,c0,c1⟩:=(HP.out.keep (zac hB.out)) k hlt
   have HF:=hid (F.out k hlt wr (HW.out.below hB.out))
   generalize X k=x at*
   generalize Y k=y at*
   go_wp2_with fail
   refine HF.out.mono ?_
   rintro e w2 ⟨rfl,hb2⟩
   have hB2:=hid (hB.out.trans (hb2.mono hB.out.size))
   clear hb2 HF
   go_wp2_with fail
   go_roundw
   case rel=>exact⟨k+1,by omega,by go_num,hB2⟩
   case measure=>simp[zL];omega
  ·have hkn:k=n:=by omega
   go_wp2_with fail
   go_ret
   exact⟨rfl,hB.out⟩
theorem z7z (p:Option Addr) (cap n:Nat) (w:zA)
 (F:Hid (qJ 99 #[.slice p n cap,.func (.func 119) #[] #[]] w (.int .i64 (-1)))):
 zC zF 50 #[.slice p n cap,.func (.func 119) #[] #[]] w (BolQ w false):=by
 go_enter Tryz.func50,Tryz.ntmps50
 go_wp2_with fail
 refine F.out.mono ?_
 rintro e w1 ⟨rfl,hB⟩
 go_wp2_with fail
 go_ret
 exact⟨rfl,hB⟩
theorem z4p (p:Option Addr) (cap n:Nat) (C:zA->Prop) (hC:∀W W',C W->qL W W'->C W')
 (K:Hid (∀W:zA,C W->qJ 53 #[.slice p n cap] W (.int .i64 0)))
 (F:Hid (∀W:zA,C W->zC zF 50 #[.slice p n cap,.func (.func 119) #[] #[]] W (BolQ W false)))
 (w:zA) (H:Hid (C w)):
 qJ 68 #[.slice p n cap] w (.int .i64 0):=by
 have HC:=hid hC;clear hC
 go_enter Tryz.func68,Tryz.ntmps68
 go_wp2_with fail
 refine(K.out w H.out).mono ?_
 rintro e w1 ⟨rfl,hb1⟩
 have B1:=hid hb1;clear hb1
 go_wp2_with fail
 refine(F.out w1 (HC.out _ _ H.out B1.out)).mono ?_
 rintro e w2 ⟨rfl,hb2⟩
 have B2:=hid (B1.out.trans (hb2.mono B1.out.size));clear hb2
 go_wp2_with fail
 go_ret
 exact⟨rfl,B2.out⟩
theorem z5n (s:ByteArray) (n d q:Int) (hn:0<=n) (hd:0<d) (hq:n.tdiv d=q) (hn2:n<100000000) (hd2:d<100000000) (hq2:0<=q/\q<=n)
 (N:Hid (∀W:zA,qJ 38 #[.string s] W (.tuple #[.agg #[.int .i64 n,.int .i64 d],.bool true]))) (w:zA) (HW:Hid (Wd w)):
 qJ 218 #[.string s] w (.tuple #[St (zE q),.int .i64 0]):=by
 have hit:=λW hW=>zb3 q (by omega) (by omega) W hW
 have w1:IntKind.i64.wrap (n.tdiv d)=q:=by rw[hq];exact zI _ (by omega)
 have w2:IntKind.i64.wrap (n.tmod d)=n.tmod d:=by
  rw[Int.tmod_eq_emod_of_nonneg hn]
  have h1:=Int.emod_lt_of_pos n hd
  have h2:=Int.emod_nonneg n (show d≠0 by omega)
  exact zI _ (by omega)
 have hrn:decide (n%d<0)=false:=decide_eq_false (by have:=Int.emod_nonneg n (show d≠0 by omega);omega)
 have hrn2:decide (n.tmod d<0)=false:=by rw[Int.tmod_eq_emod_of_nonneg hn];exact hrn
 have hd0:¬d=0:=by omega
 have HIT:=hid hit;clear hit hq hq2
 go_enter Tryz.func218,Tryz.ntmps218
 go_wp2_with fail
 refine(N.out w).mono ?_
 rintro e y1 ⟨rfl,hb1⟩
 obtain⟨v1,hv⟩:∃v1,v1=y1.alloc (.cells #[.int .i64 n,.int .i64 d] 61):=⟨_,rfl⟩
 have a1:qL y1 v1:=by rw[hv];exact(zM _ y1).alloc (zN _) _
 have A1:v1.heap[y1.heap.size]? =some (.cells #[.int .i64 n,.int .i64 d] 61 (0,0)):=by rw[hv];exact zG y1 _
 have k0:v1.cell? ⟨y1.heap.size,0,none⟩=some (.int .i64 n):=by rw[zJ A1];rfl
 have k1:v1.cell? ⟨y1.heap.size,1,none⟩=some (.int .i64 d):=by rw[zJ A1];rfl
 rw[hv] at k0 k1
 have E1:=hid (hb1.trans (a1.mono hb1.size))
 have HV:=hid hv.symm
 clear hv a1 A1 hb1
 go_wp2_with fail
 rw[HV.out]
 clear k0 k1 HV
 refine(HIT.out v1 (HW.out.below E1.out)).mono ?_
 rintro e y2 ⟨rfl,hb2⟩
 have E2:=hid (E1.out.trans (hb2.mono E1.out.size));clear hb2
 go_wp2_with fail
 go_ret2
 exact⟨rfl,E2.out⟩
theorem z63 (a b:Nat) (hb:0<b) (ha:(zD a).length<=300) (hb3:(zD b).length<=300) (w:zA) (hw:Wd w):
 qJ 248 #[St (zD a),St (zD b)] w (.tuple #[St (zD (a/b)),St (zD (a%b))]):=by
 have hd:=zzn a b hb ha hb3 w hw
 generalize zD a=x at*
 generalize zD b=y at*
 generalize zD (a/b)=q at*
 generalize zD (a%b)=r at*
 have HD:=hid hd;clear hd
 go_enter Tryz.func248,Tryz.ntmps248
 go_wp2_with fail
 refine HD.out.mono ?_
 rintro e w1 ⟨rfl,hb1⟩
 have B1:=hid hb1;clear hb1
 go_wp2_with fail
 go_ret2
 exact⟨rfl,B1.out⟩
theorem z4q (a b:Nat) (hb:0<b) (ha:(zD a).length<=300) (hb3:(zD b).length<=300) (w:zA) (hw:Wd w):
 qJ 278 #[.agg #[St (zD a),St (zD b)]] w (St (zD (a/b))):=by
 have hd:=λW hW=>z63 a b hb ha hb3 W hW
 generalize zD a=x at*
 generalize zD b=y at*
 generalize zD (a/b)=q at*
 generalize zD (a%b)=r at*
 obtain⟨v1,hv⟩:∃v1,v1=w.alloc (.cells #[St x,St y] 183):=⟨_,rfl⟩
 have a1:qL w v1:=by rw[hv];exact(zM _ w).alloc (zN _) _
 have A1:v1.heap[w.heap.size]? =some (.cells #[St x,St y] 183 (0,0)):=by rw[hv];exact zG w _
 have k0:v1.cell? ⟨w.heap.size,0,none⟩=some (St x):=by rw[zJ A1];rfl
 have k1:v1.cell? ⟨w.heap.size,1,none⟩=some (St y):=by rw[zJ A1];rfl
 have HD:=hid (hd v1 (hw.below a1))
 rw[hv] at k0 k1
 have HV:=hid hv.symm
 have E1:=hid a1
 clear hv a1 A1 hd hb ha hb3 hw
 go_enter Tryz.func278,Tryz.ntmps278
 go_wp2_with fail
 rw[HV.out]
 clear k0 k1 HV
 refine HD.out.mono ?_
 rintro e w2 ⟨rfl,hb1⟩
 have B1:=hid (E1.out.trans (hb1.mono E1.out.size));clear hb1
 go_wp2_with fail
 go_ret
 exact⟨rfl,B1.out⟩
theorem zvb (x u z:List UInt8) (w:zA)
 (M:Hid (qJ 8 #[St x,St u] w (.tuple #[St z,.int .i64 0]))):
 qJ 255 #[St x,St u] w (St z):=by
 go_enter Tryz.func255,Tryz.ntmps255
 go_wp2_with fail
 refine M.out.mono ?_
 rintro e w1 ⟨rfl,hb1⟩
 have B1:=hid hb1;clear hb1
 go_wp2_with fail
 go_ret
 exact⟨rfl,B1.out⟩
structure PrdS (w:zA) (a b c d r s:List UInt8) (f:Nat->Bool) (W:zA):Prop where
 bel:qL w W
 h0:W.heap[w.heap.size]? =some (.cells #[St a,St b] 183 (0,0))
 h1:W.heap[w.heap.size+1]? =some (.cells #[St c,St d] 183 (0,0))
 h2:f 11=false->W.heap[w.heap.size+1+1]? =some (.cells #[St [],St []] 183 (0,0))
 h3:f 11=true->W.heap[w.heap.size+1+1]? =some (.cells #[St r,St s] 183 (0,0))
section
variable {w W W':zA} {a b c d r s:List UInt8} {f g:Nat->Bool}
theorem PrdS.congr (h:PrdS w a b c d r s f W) (e:g 11=f 11):PrdS w a b c d r s g W:=⟨h.bel,h.h0,h.h1,by rw[e];exact h.h2,by rw[e];exact h.h3⟩
theorem PrdS.next (h:PrdS w a b c d r s f W) (hb:qL W W'):PrdS w a b c d r s f W':=
 have hc:=zac hb
 ⟨h.bel.trans (hb.mono h.bel.size),hc _ _ _ _ h.h0,hc _ _ _ _ h.h1,λe=>hc _ _ _ _ (h.h2 e),λe=>hc _ _ _ _ (h.h3 e)⟩
theorem PrdS.cells (h:PrdS w a b c d r s f W):W.cell? ⟨w.heap.size,0,none⟩=some (St a)/\W.cell? ⟨w.heap.size,1,none⟩=some (St b)/\W.cell? ⟨w.heap.size+1,0,none⟩=some (St c)/\W.cell? ⟨w.heap.size+1,1,none⟩=some (St d):=
 ⟨by rw[zJ h.h0];rfl,by rw[zJ h.h0];rfl,by rw[zJ h.h1];rfl,by rw[zJ h.h1];rfl⟩
theorem PrdS.soft (h:PrdS w a b c d r s f W):W.frozen? ⟨w.heap.size+1+1,0,none⟩=false/\W.frozen? ⟨w.heap.size+1+1,1,none⟩=false:=by
 cases e:f 11
 ·exact⟨Go.Joins.unfrozen_of_block (h.h2 e) 0,Go.Joins.unfrozen_of_block (h.h2 e) 1⟩
 ·exact⟨Go.Joins.unfrozen_of_block (h.h3 e) 0,Go.Joins.unfrozen_of_block (h.h3 e) 1⟩
theorem PrdS.old (h:PrdS w a b c d r s f W) (e:f 11=false):W.cell? ⟨w.heap.size+1+1,0,none⟩=some (St [])/\W.cell? ⟨w.heap.size+1+1,1,none⟩=some (St []):=
 ⟨by rw[zJ (h.h2 e)];rfl,by rw[zJ (h.h2 e)];rfl⟩
theorem PrdS.new (h:PrdS w a b c d r s f W) (e:f 11=true):W.cell? ⟨w.heap.size+1+1,0,none⟩=some (St r)/\W.cell? ⟨w.heap.size+1+1,1,none⟩=some (St s):=
 ⟨by rw[zJ (h.h3 e)];rfl,by rw[zJ (h.h3 e)];rfl⟩
theorem PrdS.put (h:PrdS w a b c d r s f W) (e:f 11=false):PrdS w a b c d r s (λj=>if 11=j then true else f j) ((W.setCell ⟨w.heap.size+1+1,0,none⟩ (St r)).setCell ⟨w.heap.size+1+1,1,none⟩ (St s)):=by
 have ne:∀{k:Nat} {o:Obj},k≠w.heap.size+1+1->W.heap[k]? =some o->((W.setCell ⟨w.heap.size+1+1,0,none⟩ (St r)).setCell ⟨w.heap.size+1+1,1,none⟩ (St s)).heap[k]? =some o:=λ{k o} hk h=>by
  rw[yE _ _ _ _ (by exact hk),yE _ _ _ _ (by exact hk)];exact h
 refine⟨(h.bel.setCell (p:=⟨w.heap.size+1+1,0,none⟩) (by show _<=w.heap.size+1+1;omega) _).setCell (p:=⟨w.heap.size+1+1,1,none⟩) (by show _<=w.heap.size+1+1;omega) _,ne (by omega) h.h0,ne (by omega) h.h1,λk=>(by simp at k),λ_=>?_⟩
 have:=zK (i:=1) (zK (i:=0) (h.h2 e) (St r)) (St s)
 exact this
end
theorem PrdS.start (w:zA) (a b c d r s:List UInt8):PrdS w a b c d r s (λ_=>false) (((w.alloc (.cells #[St a,St b] 183)).alloc (.cells #[St c,St d] 183)).alloc (.cells #[St [],St []] 183)):=by
 refine⟨(((zM _ w).alloc (zN _) _).alloc (by simp) _).alloc (by simp;omega) _,?_,?_,λ_=>?_,λk=>(by cases k)⟩
 ·exact(Below.heap_alloc _ _ _ (by simp;omega)).trans ((Below.heap_alloc _ _ _ (by simp)).trans (zG w _))
 ·have:=zG (w.alloc (.cells #[St a,St b] 183)) (.cells #[St c,St d] 183)
  rw[zH] at this
  exact(Below.heap_alloc _ _ _ (by simp)).trans this
 ·have:=zG ((w.alloc (.cells #[St a,St b] 183)).alloc (.cells #[St c,St d] 183)) (.cells #[St [],St []] 183)
  rw[zH,zH] at this
  exact this
theorem z32 (a b c d r s:List UInt8)
 (M1:Hid (qK 201 #[St a,St c] (St r)))
 (M2:Hid (qK 201 #[St b,St d] (St s)))
 (w:zA) (HW:Hid (Wd w)):
 qJ 277 #[.agg #[St a,St b],.agg #[St c,St d]] w (.agg #[St r,St s]):=by
 obtain⟨v1,hv⟩:∃v1,v1=((w.alloc (.cells #[St a,St b] 183)).alloc (.cells #[St c,St d] 183)).alloc (.cells #[St [],St []] 183):=⟨_,rfl⟩
 have HS0:Hid (PrdS w a b c d r s (λ_=>false) v1):=hid (by rw[hv];exact PrdS.start w a b c d r s)
 have HV:=hid hv.symm
 obtain⟨T,hT⟩:∃T,T=w.heap.size:=⟨_,rfl⟩
 have HT:=hid hT
 clear hv hT
 go_enter Tryz.func277,Tryz.ntmps277
 go_wp2_with fail
 have h9:=HV.out
 rw[show((w.alloc (.cells #[.string ⟨a.toArray⟩,.string ⟨b.toArray⟩] 183)).alloc (.cells #[.string ⟨c.toArray⟩,.string ⟨d.toArray⟩] 183)).alloc (.cells #[.string ⟨#[]⟩,.string ⟨#[]⟩] 183)=v1 from h9]
 clear h9 HV
 refine zbl (PrdS w a b c d r s) (by kernel_rfl) (by kernel_rfl) (HS0.out.next (zM _ _).drew) ?_
 refine zab (v:=.pointer (some ⟨w.heap.size,0,none⟩)) (by rfl) (λf W' h=>h.congr rfl) (λf W' hf h=>by go_simp) ?_
 try simp only[zzQ]
 refine zab (v:=St a) (by rfl) (λf W' h=>h.congr rfl) (λf W' hf h=>by obtain⟨q0,q1,q2,q3⟩:=h.cells;go_simp) ?_
 try simp only[zzQ]
 refine zab (v:=.pointer (some ⟨w.heap.size+1,0,none⟩)) (by rfl) (λf W' h=>h.congr rfl) (λf W' hf h=>by go_simp) ?_
 try simp only[zzQ]
 refine zab (v:=St c) (by rfl) (λf W' h=>h.congr rfl) (λf W' hf h=>by obtain⟨q0,q1,q2,q3⟩:=h.cells;go_simp) ?_
 try simp only[zzQ]
 refine zar (St r) (by rfl) (λf W' hf h C' hC'=>by
  go_simp
  refine(M1.out _ (HW.out.below h.bel)).mono ?_
  rintro e w' ⟨rfl,hb⟩
  exact⟨rfl,hC' _ ((h.next hb).congr rfl)⟩) ?_
 try simp only[zzQ]
 refine zab (v:=.pointer (some ⟨w.heap.size,1,none⟩)) (by rfl) (λf W' h=>h.congr rfl) (λf W' hf h=>by go_simp) ?_
 try simp only[zzQ]
 refine zab (v:=St b) (by rfl) (λf W' h=>h.congr rfl) (λf W' hf h=>by obtain⟨q0,q1,q2,q3⟩:=h.cells;go_simp) ?_
 try simp only[zzQ]
 refine zab (v:=.pointer (some ⟨w.heap.size+1,1,none⟩)) (by rfl) (λf W' h=>h.congr rfl) (λf W' hf h=>by go_simp) ?_
 try simp only[zzQ]
 refine zab (v:=St d) (by rfl) (λf W' h=>h.congr rfl) (λf W' hf h=>by obtain⟨q0,q1,q2,q3⟩:=h.cells;go_simp) ?_
 try simp only[zzQ]
 refine zar (St s) (by rfl) (λf W' hf h C' hC'=>by
  go_simp
  refine(M2.out _ (HW.out.below h.bel)).mono ?_
  rintro e w' ⟨rfl,hb⟩
  exact⟨rfl,hC' _ ((h.next hb).congr rfl)⟩) ?_
 try simp only[zzQ]
 refine zab (v:=.agg #[St r,St s]) (by rfl) (λf W' h=>h.congr rfl) (λf W' hf h=>by go_simp) ?_
 try simp only[zzQ]
 refine zar undef (by rfl) (λf W' hf h C' hC'=>by
  have h11:=hf.self
  obtain⟨f0,f1⟩:=h.soft
  obtain⟨f2,f3⟩:=h.old h11
  go_simp
  exact⟨rfl,hC' _ (h.put h11)⟩) ?_
 try simp only[Act.put]
 refine zck λf X hf h=>?_
 obtain⟨c0,c1⟩:=h.new (hf 11 (by decide))
 have hB:=hid h.bel
 clear h hf
 go_wp2_with fail
 exact bodyPost_ret (v:=.agg #[St r,St s]) (by simp[results,Tryz.results277,go_sem,c0,c1]) rfl ⟨rfl,hB.out⟩
theorem z4r (a b c d r s:List UInt8)
 (M1:Hid (qK 201 #[St a,St d] (St r)))
 (M2:Hid (qK 201 #[St b,St c] (St s)))
 (w:zA) (HW:Hid (Wd w)):
 qJ 276 #[.agg #[St a,St b],.agg #[St c,St d]] w (.agg #[St r,St s]):=by
 obtain⟨v1,hv⟩:∃v1,v1=((w.alloc (.cells #[St a,St b] 183)).alloc (.cells #[St c,St d] 183)).alloc (.cells #[St [],St []] 183):=⟨_,rfl⟩
 have HS0:Hid (PrdS w a b c d r s (λ_=>false) v1):=hid (by rw[hv];exact PrdS.start w a b c d r s)
 have HV:=hid hv.symm
 obtain⟨T,hT⟩:∃T,T=w.heap.size:=⟨_,rfl⟩
 have HT:=hid hT
 clear hv hT
 go_enter Tryz.func276,Tryz.ntmps276
 go_wp2_with fail
 have h9:=HV.out
 rw[show((w.alloc (.cells #[.string ⟨a.toArray⟩,.string ⟨b.toArray⟩] 183)).alloc (.cells #[.string ⟨c.toArray⟩,.string ⟨d.toArray⟩] 183)).alloc (.cells #[.string ⟨#[]⟩,.string ⟨#[]⟩] 183)=v1 from h9]
 clear h9 HV
 refine zbl (PrdS w a b c d r s) (by kernel_rfl) (by kernel_rfl) (HS0.out.next (zM _ _).drew) ?_
 refine zab (v:=.pointer (some ⟨w.heap.size,0,none⟩)) (by rfl) (λf W' h=>h.congr rfl) (λf W' hf h=>by go_simp) ?_
 try simp only[zzQ]
 refine zab (v:=St a) (by rfl) (λf W' h=>h.congr rfl) (λf W' hf h=>by obtain⟨q0,q1,q2,q3⟩:=h.cells;go_simp) ?_
 try simp only[zzQ]
 refine zab (v:=.pointer (some ⟨w.heap.size+1,1,none⟩)) (by rfl) (λf W' h=>h.congr rfl) (λf W' hf h=>by go_simp) ?_
 try simp only[zzQ]
 refine zab (v:=St d) (by rfl) (λf W' h=>h.congr rfl) (λf W' hf h=>by obtain⟨q0,q1,q2,q3⟩:=h.cells;go_simp) ?_
 try simp only[zzQ]
 refine zar (St r) (by rfl) (λf W' hf h C' hC'=>by
  go_simp
  refine(M1.out _ (HW.out.below h.bel)).mono ?_
  rintro e w' ⟨rfl,hb⟩
  exact⟨rfl,hC' _ ((h.next hb).congr rfl)⟩) ?_
 try simp only[zzQ]
 refine zab (v:=.pointer (some ⟨w.heap.size,1,none⟩)) (by rfl) (λf W' h=>h.congr rfl) (λf W' hf h=>by go_simp) ?_
 try simp only[zzQ]
 refine zab (v:=St b) (by rfl) (λf W' h=>h.congr rfl) (λf W' hf h=>by obtain⟨q0,q1,q2,q3⟩:=h.cells;go_simp) ?_
 try simp only[zzQ]
 refine zab (v:=.pointer (some ⟨w.heap.size+1,0,none⟩)) (by rfl) (λf W' h=>h.congr rfl) (λf W' hf h=>by go_simp) ?_
 try simp only[zzQ]
 refine zab (v:=St c) (by rfl) (λf W' h=>h.congr rfl) (λf W' hf h=>by obtain⟨q0,q1,q2,q3⟩:=h.cells;go_simp) ?_
 try simp only[zzQ]
 refine zar (St s) (by rfl) (λf W' hf h C' hC'=>by
  go_simp
  refine(M2.out _ (HW.out.below h.bel)).mono ?_
  rintro e w' ⟨rfl,hb⟩
  exact⟨rfl,hC' _ ((h.next hb).congr rfl)⟩) ?_
 try simp only[zzQ]
 refine zab (v:=.agg #[St r,St s]) (by rfl) (λf W' h=>h.congr rfl) (λf W' hf h=>by go_simp) ?_
 try simp only[zzQ]
 refine zar undef (by rfl) (λf W' hf h C' hC'=>by
  have h11:=hf.self
  obtain⟨f0,f1⟩:=h.soft
  obtain⟨f2,f3⟩:=h.old h11
  go_simp
  exact⟨rfl,hC' _ (h.put h11)⟩) ?_
 try simp only[Act.put]
 refine zck λf X hf h=>?_
 obtain⟨c0,c1⟩:=h.new (hf 11 (by decide))
 have hB:=hid h.bel
 clear h hf
 go_wp2_with fail
 exact bodyPost_ret (v:=.agg #[St r,St s]) (by simp[results,Tryz.results276,go_sem,c0,c1]) rfl ⟨rfl,hB.out⟩
theorem z5p (x:ByteArray) (h0:(x.toList==[48])=false) (w:zA) (N:Hid (zC zF 205 #[.string x] w λe w'=>e=.returned (.bool false)/\w'=w)):
 zC zF 275 #[.string x] w λe w'=>e=.returned (.int .i64 1)/\w'=w:=by
 go_enter Tryz.func275,Tryz.ntmps275
 go_wp2_with fail
 refine N.out.mono ?_
 rintro e w' ⟨rfl,rfl⟩
 go_wp2_with fail
 go_ret
 exact⟨rfl,rfl⟩
theorem z0r (x y:ByteArray)
 (CK:Hid (∀W:zA,Wd W->zC zF 146 #[.slice (some ⟨W.heap.size,0,none⟩) 2 2,.slice (some ⟨W.heap.size+1,0,none⟩) 1 1] ((W.alloc (.cells #[.string x,.string y] 22)).alloc (.cells #[.string x] 22)) λe w'=>e=.returned (.int .i64 0)/\Below W.heap.size W w'))
 (SG:Hid (∀W:zA,zC zF 275 #[.string y] W λe w'=>e=.returned (.int .i64 1)/\w'=W)) (w:zA) (HW:Hid (Wd w)):
 qJ 254 #[.string x,.string y] w (.int .i64 0):=by
 have HC:=hid (CK.out w HW.out);clear CK
 go_enter Tryz.func254,Tryz.ntmps254
 go_wp2_with fail
 refine HC.out.mono ?_
 rintro e w2 ⟨rfl,hb2⟩
 have HB2:=hid hb2;clear hb2 HC
 go_wp2_with fail
 refine(SG.out w2).mono ?_
 rintro e w' ⟨rfl,rfl⟩
 go_wp2_with fail
 go_ret
 exact⟨rfl,HB2.out⟩
structure UntS (w:zA) (a:Nat) (un ud on od:List UInt8) (b:Nat) (f:Nat->Bool) (W:zA):Prop where
 bel:qL w W
 hu:W.heap[a]? =some (.cells #[St un,St ud] 183 (0,0))
 ge:f 6=true->w.heap.size<=b
 h6:f 6=true->f 7=false->W.heap[b]? =some (.cells #[St [],St []] 183 (0,0))
 h7:f 7=true->W.heap[b]? =some (.cells #[St on,St od] 183 (0,0))
section
variable {w W W':zA} {a b:Nat} {un ud on od:List UInt8} {f g:Nat->Bool}
theorem UntS.congr (h:UntS w a un ud on od b f W) (e6:g 6=f 6) (e7:g 7=f 7):UntS w a un ud on od b g W:=⟨h.bel,h.hu,by rw[e6];exact h.ge,by rw[e6,e7];exact h.h6,by rw[e7];exact h.h7⟩
theorem UntS.next (h:UntS w a un ud on od b f W) (hb:qL W W'):UntS w a un ud on od b f W':=
 have hc:=zac hb
 ⟨h.bel.trans (hb.mono h.bel.size),hc _ _ _ _ h.hu,h.ge,λe e'=>hc _ _ _ _ (h.h6 e e'),λe=>hc _ _ _ _ (h.h7 e)⟩
theorem UntS.cells (h:UntS w a un ud on od b f W):W.cell? ⟨a,0,none⟩=some (St un)/\W.cell? ⟨a,1,none⟩=some (St ud):=
 ⟨by rw[zJ h.hu];rfl,by rw[zJ h.hu];rfl⟩
theorem UntS.old (h:UntS w a un ud on od b f W) (e6:f 6=true) (e7:f 7=false):W.cell? ⟨b,0,none⟩=some (St [])/\W.cell? ⟨b,1,none⟩=some (St [])/\W.frozen? ⟨b,0,none⟩=false/\W.frozen? ⟨b,1,none⟩=false:=
 ⟨by rw[zJ (h.h6 e6 e7)];rfl,by rw[zJ (h.h6 e6 e7)];rfl,Go.Joins.unfrozen_of_block (h.h6 e6 e7) 0,Go.Joins.unfrozen_of_block (h.h6 e6 e7) 1⟩
theorem UntS.put (h:UntS w a un ud on od b f W) (e6:f 6=true) (e7:f 7=false) (hne:a≠b):UntS w a un ud on od b (λj=>if 7=j then true else f j) ((W.setCell ⟨b,0,none⟩ (St on)).setCell ⟨b,1,none⟩ (St od)):=by
 have hg:=h.ge e6
 refine⟨(h.bel.setCell (p:=⟨b,0,none⟩) hg _).setCell (p:=⟨b,1,none⟩) hg _,?_,λ_=>hg,λ_ k=>(by simp at k),λ_=>?_⟩
 ·rw[yE _ _ _ _ (by exact hne),yE _ _ _ _ (by exact hne)];exact h.hu
 ·exact zK (i:=1) (zK (i:=0) (h.h6 e6 e7) (St on)) (St od)
theorem UntS.new (h:UntS w a un ud on od b f W) (e7:f 7=false):UntS w a un ud on od W.heap.size (λj=>if 6=j then true else f j) (W.alloc (.cells #[St [],St []] 183)):=
 have hb:qL W (W.alloc (.cells #[St [],St []] 183)):=(zM _ W).alloc (zN _) _
 ⟨h.bel.trans (hb.mono h.bel.size),zac hb _ _ _ _ h.hu,λ_=>h.bel.size,λ_ _=>zG _ _,λk=>(by have k':f 7=true:=(by simpa using k);rw[e7] at k';cases k')⟩
end
theorem z34 (q u fac qn qd un ud tn td on od m fl rt:List UInt8)
 (OQ:Hid (qK 148 #[St q] (.agg #[St qn,St qd])))
 (OU:Hid (qK 148 #[St u] (.agg #[St un,St ud])))
 (TM:Hid (qK 277 #[.agg #[St un,St ud],.agg #[St un,St ud]] (.agg #[St tn,St td])))
 (OV:Hid (qK 276 #[.agg #[St qn,St qd],.agg #[St tn,St td]] (.agg #[St on,St od])))
 (ML:Hid (qK 201 #[St on,St fac] (St m)))
 (FL:Hid (qK 278 #[.agg #[St m,St od]] (St fl)))
 (RT:Hid (qK 149 #[St fl] (.tuple #[St rt,.int .i64 0])))
 (w:zA) (HW:Hid (Wd w)):
 qJ 256 #[St q,St u,St fac] w (St rt):=by
 go_enter Tryz.func256,Tryz.ntmps256
 go_wp2_with fail
 refine(OU.out w HW.out).mono ?_
 rintro e w1 ⟨rfl,hb1⟩
 obtain⟨v1,hv⟩:∃v1,v1=w1.alloc (.cells #[St un,St ud] 183):=⟨_,rfl⟩
 have a1:qL w1 v1:=by rw[hv];exact(zM _ w1).alloc (zN _) _
 have A1:v1.heap[w1.heap.size]? =some (.cells #[St un,St ud] 183 (0,0)):=by rw[hv];exact zG w1 _
 have HV:=hid hv.symm
 have E1:=hid (hb1.trans (a1.mono hb1.size));have B1:=hid A1
 have hlt:=(Array.getElem?_eq_some_iff.1 A1).1
 have HL:=hid hlt
 clear hv a1 A1 hb1 hlt
 go_wp2_with fail
 try rw[show w1.alloc (.cells #[.string ⟨un.toArray⟩,.string ⟨ud.toArray⟩] 183)=v1 from HV.out]
 clear HV
 generalize w1.heap.size=a at*
 refine zc4 (λ(b:Nat) i=>([St q,.agg #[St qn,St qd],.agg #[St un,St ud],.agg #[St un,St ud],.agg #[St tn,St td],.agg #[St on,St od],.pointer (some ⟨b,0,none⟩)]:List Value).getD i undef) (UntS v1 a un ud on od) (by kernel_rfl) (by kernel_rfl) 0 ⟨(zM _ v1).drew,B1.out,λk=>(by cases k),λk=>(by cases k),λk=>(by cases k)⟩ λb=>?_
 refine qB (St q) (λf W' h=>h.congr rfl rfl) ?_
 simp only[zzQ]
 refine zbv (.agg #[St qn,St qd]) (by rfl) (by rfl) (λf W' hf h C' hC'=>by
  go_simp
  refine(OQ.out _ (HW.out.below (E1.out.trans (h.bel.mono E1.out.size)))).mono ?_
  rintro e w' ⟨rfl,hb⟩
  exact⟨_,rfl,hC' _ ((h.next hb).congr rfl rfl)⟩) ?_
 try simp only[zzQ]
 refine qB (.agg #[St un,St ud]) (λf W' h=>h.congr rfl rfl) ?_ (hy:=λf W' hf h=>by obtain⟨q0,q1⟩:=h.cells;go_simp)
 simp only[zzQ]
 refine qB (.agg #[St un,St ud]) (λf W' h=>h.congr rfl rfl) ?_ (hy:=λf W' hf h=>by obtain⟨q0,q1⟩:=h.cells;go_simp)
 simp only[zzQ]
 refine zbv (.agg #[St tn,St td]) (by rfl) (by rfl) (λf W' hf h C' hC'=>by
  go_simp
  refine(TM.out _ (HW.out.below (E1.out.trans (h.bel.mono E1.out.size)))).mono ?_
  rintro e w' ⟨rfl,hb⟩
  exact⟨_,rfl,hC' _ ((h.next hb).congr rfl rfl)⟩) ?_
 try simp only[zzQ]
 refine zbv (.agg #[St on,St od]) (by rfl) (by rfl) (λf W' hf h C' hC'=>by
  go_simp
  refine(OV.out _ (HW.out.below (E1.out.trans (h.bel.mono E1.out.size)))).mono ?_
  rintro e w' ⟨rfl,hb⟩
  exact⟨_,rfl,hC' _ ((h.next hb).congr rfl rfl)⟩) ?_
 try simp only[zzQ]
 refine zdc (.pointer (some ⟨b,0,none⟩)) (by rfl) (by rfl) (λf W' hf h C' hC'=>by
  have h7:=hf.no (j:=7) hf.self (by kernel_rfl)
  have:=hC' W'.heap.size (W'.alloc (.cells #[St [],St []] 183)) (λi hi=>?_) (h.new h7)
  ·go_simp
   exact this
  ·match i,hi with
   |0,_|1,_|2,_|3,_|4,_|5,_=>rfl
   |6,hi=>rw[hf.self] at hi;cases hi
   |_+7,_=>rfl) ?_
 try simp only[zzQ]
 refine zbv undef (by rfl) (by rfl) (λf W' hf h C' hC'=>by
  have h7:=hf.self
  have h6:=hf.done 6 (by kernel_rfl)
  obtain⟨q0,q1,q2,q3⟩:=h.old h6 h7
  have hge:=h.ge h6
  have:=hC' _ (h.put h6 h7 (by have:=HL.out;omega))
  go_simp
  exact this) ?_
 try simp only[Act.put]
 refine ze1 λf X hf h=>?_
 have h7:=h.h7 (hf 7 (by decide))
 have hge:=h.ge (hf 6 (by decide))
 have E2:=hid (E1.out.trans (h.bel.mono E1.out.size))
 have hge2:=zO E1.out.size hge
 have HB:=hid h7
 have q0:X.cell? ⟨b,0,none⟩=some (St on):=by rw[zJ h7];rfl
 have q1:X.cell? ⟨b,1,none⟩=some (St od):=by rw[zJ h7];rfl
 clear hf h h7 hge E1 B1 HL OQ OU TM OV
 go_wp2_with fail
 refine(ML.out X (HW.out.below E2.out)).mono ?_
 rintro e w2 ⟨rfl,hb2⟩
 have E3:=hid (E2.out.trans (hb2.mono E2.out.size))
 have B3:=zac hb2 _ _ _ _ HB.out
 have HB3:=hid B3
 clear q0 q1
 have q0:w2.cell? ⟨b,0,none⟩=some (St on):=by rw[zJ B3];rfl
 have q1:w2.cell? ⟨b,1,none⟩=some (St od):=by rw[zJ B3];rfl
 have q2:=Go.Joins.unfrozen_of_block B3 0
 obtain⟨y2,hy2⟩:∃y2,y2=w2.setCell ⟨b,0,none⟩ (St m):=⟨_,rfl⟩
 have r0:y2.cell? ⟨b,0,none⟩=some (St m):=by rw[hy2,zJ (zK (i:=0) B3 (St m))];rfl
 have r1:y2.cell? ⟨b,1,none⟩=some (St od):=by rw[hy2,zJ (zK (i:=0) B3 (St m))];rfl
 have E4:Hid (qL w y2):=hid (by rw[hy2];exact E3.out.setCell (p:=⟨b,0,none⟩) hge2 _)
 rw[hy2] at r0 r1
 have HY:=hid hy2.symm
 clear hb2 E2 HB ML B3 hge2 hy2
 go_wp2_with fail
 try rw[show w2.setCell ⟨b,0,none⟩ (.string ⟨m.toArray⟩)=y2 from HY.out]
 clear HY r0 r1 q0 q1 q2
 refine(FL.out y2 (HW.out.below E4.out)).mono ?_
 rintro e w3 ⟨rfl,hb3⟩
 have E5:=hid (E4.out.trans (hb3.mono E4.out.size))
 clear hb3
 go_wp2_with fail
 refine(RT.out w3 (HW.out.below E5.out)).mono ?_
 rintro e w4 ⟨rfl,hb4⟩
 have E6:=hid (E5.out.trans (hb4.mono E5.out.size))
 clear hb4
 go_wp2_with fail
 go_ret
 exact⟨rfl,E6.out⟩
theorem z36 (q u rt z:List UInt8)
 (UE:Hid (qK 254 #[St q,St u] (.int .i64 0)))
 (UN:Hid (qK 256 #[St q,St u,.string ⟨#[49]⟩] (St rt)))
 (MU:Hid (qK 255 #[St rt,St u] (St z)))
 (w:zA) (HW:Hid (Wd w)):
 qJ 217 #[St q,St u] w (.tuple #[St z,.int .i64 0]):=by
 go_enter Tryz.func217,Tryz.ntmps217
 go_wp2_with fail
 refine(UE.out w HW.out).mono ?_
 rintro e w1 ⟨rfl,hb1⟩
 have E1:=hid hb1;clear hb1
 go_wp2_with fail
 refine(UN.out w1 (HW.out.below E1.out)).mono ?_
 rintro e w2 ⟨rfl,hb2⟩
 have E2:=hid (E1.out.trans (hb2.mono E1.out.size));clear hb2
 go_wp2_with fail
 refine(MU.out w2 (HW.out.below E2.out)).mono ?_
 rintro e w3 ⟨rfl,hb3⟩
 have E3:=hid (E2.out.trans (hb3.mono E2.out.size));clear hb3
 go_wp2_with fail
 go_ret2
 exact⟨rfl,E3.out⟩
theorem z64 (W:zA) (t:TypeId) (p q:Rat):
 RowNums (some ⟨W.heap.size,0,none⟩) 2 (λi=>if i=0 then p else q) ((W.alloc (.cells #[St (numS p),St (numS q)] t)).alloc (.cells #[St (numS p)] t))/\
 RowNums (some ⟨W.heap.size+1,0,none⟩) 1 (λ_=>p) ((W.alloc (.cells #[St (numS p),St (numS q)] t)).alloc (.cells #[St (numS p)] t)):=by
 have A1:=(Below.heap_alloc (W.alloc (.cells #[St (numS p),St (numS q)] t)) (.cells #[St (numS p)] t) W.heap.size (by simp)).trans (zG W (.cells #[St (numS p),St (numS q)] t (0,0)))
 have A2:=zG (W.alloc (.cells #[St (numS p),St (numS q)] t)) (.cells #[St (numS p)] t (0,0))
 rw[zH] at A2
 constructor
 ·intro i hi
  refine⟨_,_,rfl,?_⟩
  rw[zJ A1]
  match i,hi with
  |0,_|1,_=>rfl
 ·intro i hi
  refine⟨_,_,rfl,?_⟩
  rw[zJ A2]
  match i,hi with
  |0,_=>rfl
theorem zpq (x y:Nat) (hx:(zD x).length<=300) (hy:(zD y).length<=300) (hxy:(zD (x*y)).length<=300) (w:zA) (hw:Wd w):
 qJ 201 #[St (zD x),St (zD y)] w (St (zD (x*y))):=by
 have:=z6d (x:Int) (y:Int) (by rw[zd9];exact hx) (by rw[zd9];exact hy) (by rw[<-Int.natCast_mul,zd9];exact hxy) w hw
 rwa [<-Int.natCast_mul,Str.zad,Str.zad,Str.zad] at this
theorem z5q (q u:Rat) (i j s:Nat) (hq:0<=q) (hu:0<u) (hi:0<i) (hj:0<j) (hij:i+2*j<=190) (hi9:i<=90) (hj9:j<=90) (sq:sz q i) (su:sz u j)
 (hs:s*s<=q.num.natAbs*(u.den*u.den)/(q.den*(u.num.natAbs*u.num.natAbs))/\q.num.natAbs*(u.den*u.den)/(q.den*(u.num.natAbs*u.num.natAbs))<(s+1)*(s+1)) (w:zA) (hw:Wd w):
 qJ 217 #[St (numS q),St (numS u)] w (.tuple #[St (numS ((s:Rat)*u)),.int .i64 0]):=by
 have hu0:u≠0:=by grind
 have hqn:0<=q.num:=Rat.num_nonneg.2 hq
 have hun:0<=u.num:=Rat.num_nonneg.2 (Rat.le_of_lt hu)
 have hup:0<u.num.natAbs:=by
  have:u.num≠0:=λe=>hu0 (Rat.num_eq_zero.1 e)
  omega
 have okq:=zd0 (k:=i) (by omega) (by omega) sq
 have oku:=zd0 (k:=j) (by omega) (by omega) su
 have dq:=zok (k:=90) (by omega) (sq.mono hi9)
 have du:=zok (k:=90) (by omega) (su.mono hj9)
 have iq:zE q.num=zD q.num.natAbs:=by
  have:=Str.zad q.num.natAbs
  rwa [show((q.num.natAbs:Nat):Int)=q.num by omega] at this
 have iu:zE u.num=zD u.num.natAbs:=by
  have:=Str.zad u.num.natAbs
  rwa [show((u.num.natAbs:Nat):Int)=u.num by omega] at this
 obtain⟨q1,q2⟩:=sq
 obtain⟨u1,u2⟩:=su
 have su':sz u j:=⟨u1,u2⟩
 have okn:u.num.natAbs*u.num.natAbs<10^(j+j):=zcc u1 u1
 have okd:u.den*u.den<10^(j+j):=zcc u2 u2
 have k1:q.num.natAbs*(u.den*u.den)<10^(i+(j+j)):=zcc q1 okd
 have k2:q.den*(u.num.natAbs*u.num.natAbs)<10^(i+(j+j)):=zcc q2 okn
 have len:∀{x k:Nat},0<k->k<=300->x<10^k->(zD x).length<=300:=λ{x k} h0 h3 h=>zO (zil h0 h) h3
 have hD:0<q.den*(u.num.natAbs*u.num.natAbs):=Nat.mul_pos q.den_pos (Nat.mul_pos hup hup)
 have hNd:=Nat.div_le_self (q.num.natAbs*(u.den*u.den)) (q.den*(u.num.natAbs*u.num.natAbs))
 have k3:q.num.natAbs*(u.den*u.den)/(q.den*(u.num.natAbs*u.num.natAbs))<10^(i+(j+j)):=Nat.lt_of_le_of_lt hNd k1
 have hsl:s<10^(i+(j+j)):=Nat.lt_of_le_of_lt (zO (Nat.le_mul_self s) hs.1) k3
 have ss:sz (s:Rat) (i+(j+j)):=⟨by rw[show((s:Rat)).num=(s:Int) from rfl];simpa using hsl,by rw[show((s:Rat)).den=1 from rfl];exact Nat.one_lt_pow (by omega) (by omega)⟩
 have d1:zD 1=[49]:=by rw[zae (by omega)];rfl
 refine z36 (numS q) (numS u) (zD s) _ (hid λW hW=>?_) (hid λW hW=>?_) (hid λW hW=>?_) w (hid hw)
 ·refine z0r ⟨(numS q).toArray⟩ ⟨(numS u).toArray⟩ (hid λW hW=>?_) (hid λW=>?_) W (hid hW)
  ·obtain⟨t1,t2⟩:=z64 W 22 q u
   have hal:qL W ((W.alloc (.cells #[St (numS q),St (numS u)] 22)).alloc (.cells #[St (numS q)] 22)):=((zM _ W).alloc (zN _) _).alloc (by simp) _
   refine(zji _ _ 2 1 2 1 _ _ (by omega) (by omega) (hid λi _ W hW=>?_) (hid λi _ W hW=>?_) (hid λi _=>?_) (hid λi _ W=>?_) _ (hid (hW.below hal)) (hid t1) (hid t2)).mono ?_
   ·show zC _ _ #[St (numS (if i=0 then q else u))] _ _
    split
    ·exact zfj q okq W hW
    ·exact zfj u oku W hW
   ·by_cases c:i=0
    ·simp only[c,if_true];exact zio q okq W hW
    ·simp only[c,if_false];exact zio u oku W hW
   ·by_cases c:i=0
    ·simp only[c,if_true];exact dq
    ·simp only[c,if_false];exact du
   ·exact zma q hqn W
   ·rintro e w' ⟨rfl,hb⟩
    exact⟨rfl,hal.trans (hb.mono hal.size)⟩
  ·refine z5p _ ?_ W (hid (zma u hun W))
   rw[ByteArray.toList_eq,beq_eq_false_iff_ne]
   exact λh=>hu0 ((zpy u).1 (by simpa using h))
 ·rw[<-d1]
  refine z34 (numS q) (numS u) (zD 1) (zD q.num.natAbs) (zD q.den) (zD u.num.natAbs) (zD u.den) (zD (u.num.natAbs*u.num.natAbs)) (zD (u.den*u.den)) (zD (q.num.natAbs*(u.den*u.den))) (zD (q.den*(u.num.natAbs*u.num.natAbs))) (zD (q.num.natAbs*(u.den*u.den))) (zD (q.num.natAbs*(u.den*u.den)/(q.den*(u.num.natAbs*u.num.natAbs)))) (zD s)
   (hid λW hW=>?_) (hid λW hW=>?_) (hid λW hW=>?_) (hid λW hW=>?_) (hid λW hW=>?_) (hid λW hW=>?_) (hid λW hW=>?_) W (hid hW)
  ·have:=zio q okq W hW;rwa [iq] at this
  ·have:=zio u oku W hW;rwa [iu] at this
  ·exact z32 _ _ _ _ _ _ (hid λW hW=>zpq _ _ (len hj (by omega) u1) (len hj (by omega) u1) (len (by omega) (by omega) okn) W hW) (hid λW hW=>zpq _ _ (len hj (by omega) u2) (len hj (by omega) u2) (len (by omega) (by omega) okd) W hW) W (hid hW)
  ·exact z4r _ _ _ _ _ _ (hid λW hW=>zpq _ _ (len hi (by omega) q1) (len (by omega) (by omega) okd) (len (by omega) (by omega) k1) W hW) (hid λW hW=>zpq _ _ (len hi (by omega) q2) (len (by omega) (by omega) okn) (len (by omega) (by omega) k2) W hW) W (hid hW)
  ·have:=zpq (q.num.natAbs*(u.den*u.den)) 1 (len (by omega) (by omega) k1) (by rw[d1];simp) (by rw[Nat.mul_one];exact len (by omega) (by omega) k1) W hW
   rwa [Nat.mul_one] at this
  ·exact z4q _ _ hD (len (by omega) (by omega) k1) (len (by omega) (by omega) k2) W hW
  ·exact zvx _ s hs (zO (zil (by omega) k3) (by omega)) W hW
 ·rw[<-zhe]
  exact zvb _ _ _ W (hid (zjf (s:Rat) u (i+(j+j)) j (by omega) hj (by omega) ss su' W hW))
end Go.Proofs.YtpichfafdcfbhaaGreatDoor
