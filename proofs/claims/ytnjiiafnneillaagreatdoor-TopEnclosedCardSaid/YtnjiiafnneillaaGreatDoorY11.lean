/- surd.both and surd.Mul. -/
import Derived.Test.YtnjiiafnneillaaGreatDoorY10
import Derived.Lib.AppendZerosOnto
import Derived.Laws.AppendOwnNone
set_option maxRecDepth 100000
set_option maxHeartbeats 8000000
open Go renaming World → zA, Calls → zC
open Go.RowKit renaming Below → zB, intOf → zL
open Go.Lib renaming decDigits → zD, itoa → zE
open Go.Proofs.Tryz renaming prog → zF
open Go.World renaming alloc_heap_new → zG
open Go.IntWalk renaming i64_in → zI
open Go.Joins renaming cell_of_block → zJ
open Go.RowKit.Below renaming refl → zM
open Nat renaming le_refl → zN, le_trans → zO, zero_le → zR
open List renaming length_append → zU
namespace Go.Proofs.YtnjiiafnneillaaGreatDoor
section
open Go.RowKit Go.Shelf Lib Str Limb
attribute [local go_sem] Oper.semAt_some
theorem z6g (v1 v2:Value) (C:zA->Prop) (hC:∀W W',C W->qL W W'->C W')
 (K1:Hid (∀W:zA,C W->qJ 64 #[v1] W (.int .i64 0)))
 (K2:Hid (∀W:zA,C W->qJ 64 #[v2] W (.int .i64 0)))
 (w:zA) (h:C w):
 qJ 120 #[v1,v2] w (.bool true):=by
 have HC:=hid hC;have H:=hid h;clear hC h;go_enter Tryz.func120,Tryz.ntmps120;go_wp21;refine zzM (K1.out w H.out) λw1 hb1=>?_;have B1:=hid hb1;clear hb1;go_wp21;refine zzM (K2.out w1 (HC.out _ _ H.out B1.out)) λw2 hb2=>?_;have B2:=hid (B1.out.trans (hb2.mono B1.out.size));clear hb2;go_wp21;go_ret;exact⟨rfl,B2.out⟩
def zrm (C D:Nat->Nat->List UInt8) (i:Nat):Nat->List (List UInt8×List UInt8)
 |0=>[]
 |j+1=>zrm C D i j++[(C i j,D i j)]
def zi2 (C D:Nat->Nat->List UInt8) (m:Nat):Nat->List (List UInt8×List UInt8)
 |0=>[]
 |i+1=>zi2 C D m i++zrm C D i m
theorem zsd (C D:Nat->Nat->List UInt8) (i:Nat):∀j,(zrm C D i j).length=j
 |0=>rfl
 |j+1=>by simp[zrm,zsd C D i j]
theorem z19 (C D:Nat->Nat->List UInt8) (m:Nat):∀i,(zi2 C D m i).length=i*m
 |0=>by simp[zi2]
 |i+1=>by simp[zi2,z19 C D m i,zsd,Nat.succ_mul]
def zef (C D:Nat->Nat->List UInt8) (m i j:Nat):List (List UInt8×List UInt8):=zi2 C D m i++zrm C D i j
theorem z9c (C D:Nat->Nat->List UInt8) (m i j:Nat):(zef C D m i j).length=i*m+j:=by simp[zef,z19,zsd]
theorem z66 (C D:Nat->Nat->List UInt8) (m i j:Nat):zef C D m i (j+1)=zef C D m i j++[(C i j,D i j)]:=by simp[zef,zrm]
theorem z9d (C D:Nat->Nat->List UInt8) (m i:Nat):zef C D m i m=zef C D m (i+1) 0:=by simp[zef,zi2,zrm]
theorem z68 (C D:Nat->Nat->List UInt8) (m i:Nat):zef C D m i 0=zi2 C D m i:=by simp[zef,zrm]
theorem z5j (C D:Nat->Nat->List UInt8) {n m i j:Nat} (hi:i<n) (hj:j<=m) (hn:n<=16) (hm:m<=16):(zef C D m i j).length<=256:=by
 rw[z9c];have:=Nat.mul_le_mul (show i+1<=16 by omega) hm;rw[Nat.succ_mul] at this;omega
theorem z7b (p1 p2:Option Addr) (cap1 cap2 n m:Nat) (X1 Y1 X2 Y2:Nat->List UInt8) (C D:Nat->Nat->List UInt8) (R:Value->Int->zA->Prop) (hn:n<=16) (hm:m<=16)
 (w:zA) (HW:Hid (∀W,qL w W->Wd W))
 (BT:Hid (qJ 120 #[.slice p1 n cap1,.slice p2 m cap2] w (.bool true)))
 (CC:Hid (∀i j,i<n->j<m->qK 9 #[St (X1 i),St (X2 j)] (.tuple #[St (C i j),.int .i64 0])))
 (DD:Hid (∀i j,i<n->j<m->qK 9 #[St (Y1 i),St (Y2 j)] (.tuple #[St (D i j),.int .i64 0])))
 (T1:Hid (∀i,i<n->∃b off,p1=some ⟨b,off,none⟩/\b<w.heap.size/\w.cell? ⟨b,off+i*2,none⟩=some (St (X1 i))/\w.cell? ⟨b,off+i*2+1,none⟩=some (St (Y1 i))))
 (T2:Hid (∀i,i<m->∃b off,p2=some ⟨b,off,none⟩/\b<w.heap.size/\w.cell? ⟨b,off+i*2,none⟩=some (St (X2 i))/\w.cell? ⟨b,off+i*2+1,none⟩=some (St (Y2 i))))
 (MK:Hid (∀(W:zA) (q:Option Addr) (c:Nat),qL w W->W.ownsRow w.heap.size 37 2 (.slice q (zi2 C D m n).length c) (zi2 C D m n).length (zbj (zi2 C D m n))->zC zF 11 #[.slice q (zi2 C D m n).length c] W λe w'=>∃q' k' c' r,e=.returned (.tuple #[.slice q' k' c',.int .i64 r])/\zB W.heap.size W w'/\R (.slice q' k' c') r w')):
 zC zF 59 #[.slice p1 n cap1,.slice p2 m cap2] w λe w'=>∃q k c r,e=.returned (.tuple #[.slice q k c,.int .i64 r])/\zB w.heap.size w w'/\R (.slice q k c) r w':=by
 obtain⟨i0,hi,hz0,hz1,hz2⟩:=info_parts zsc;go_enter Tryz.func59,Tryz.ntmps59;go_wp21;refine zzM BT.out λw1 hb1=>?_;have D0:=hid hb1;have O0:=hid (show w1.ownsRow w.heap.size 37 2 (.slice none 0 0) (zef C D m 0 0).length (zbj (zef C D m 0 0)) from World.ownsRow_nil _ _ _ _);clear hb1 BT;go_wp21;go_loopw [6,20] (λv i wr=>∃(k:Nat) (q:Option Addr) (c:Nat),k<=n/\i=.int .i64 (k:Int)/\v=.slice q (zef C D m k 0).length c/\Hid (qL w wr)/\Hid (wr.ownsRow w.heap.size 37 2 (.slice q (zef C D m k 0).length c) (zef C D m k 0).length (zbj (zef C D m k 0))))
  (λ_ i _=>n-(zL i).toNat)
 case atStart=>exact⟨0,none,0,zR _,rfl,rfl,D0,O0⟩
 case round=>
  clear D0 O0;obtain⟨k,q,c,hk,rfl,rfl,D1,O1⟩:=hrel;by_cases hlt:k<n
  ·obtain⟨b,off,rfl,hb,c0,c1⟩:=T1.out k hlt
   have t0:wr.cell? ⟨b,off+k*2,none⟩=some (St (X1 k)):=by rw[D1.out.cell (p:=⟨b,off+k*2,none⟩) hb];exact c0
   have t1:wr.cell? ⟨b,off+k*2+1,none⟩=some (St (Y1 k)):=by rw[D1.out.cell (p:=⟨b,off+k*2+1,none⟩) hb];exact c1
   have hCk:=λj=>CC.out k j hlt;have hDk:=λj=>DD.out k j hlt;have HCk:=hid hCk;have HDk:=hid hDk;clear hCk hDk;generalize X1 k=x at*
   generalize Y1 k=y at*
   obtain⟨v1,hv⟩:=zzX (wr.alloc (.cells #[St x,St y] 37));have a1:qL wr v1:=by rw[hv];exact(zM _ wr).alloc (zN _) _
   have A1:v1.heap[wr.heap.size]? =some (.cells #[St x,St y] 37 (0,0)):=by rw[hv];exact zG wr _
   have HV1:=hid hv.symm;have E1:=hid (D1.out.trans (a1.mono D1.out.size));have B1:=hid A1;have O2:=hid (zcj (zac a1) O1.out);have NB:Hid (∀b,(Value.slice q (zef C D m k 0).length c).ownBlock=some b->b<wr.heap.size):=hid (λb e=>(O1.out.lt b e).2);obtain⟨T,hT⟩:=zzX wr.heap.size;have HTs:=hid (show w.heap.size<=T by rw[hT];exact D1.out.size);rw[<-hT] at B1;have HT:=hid hT;clear hv a1 A1 c0 c1 hb O1 hT;go_wp21;rw[HV1.out];clear t0 t1 HV1;obtain⟨wo,hwo⟩:=zzX (wr:zA);have HWO:=hid hwo;clear hwo;rw[<-HT.out];have NB0:Hid (some T≠(Value.slice q (zef C D m k 0).length c).ownBlock):=hid (λe=>by
    have:=(O2.out.lt T e.symm).2;have:=NB.out T e.symm;rw[HT.out] at this;omega)
   clear NB;go_loopw [6,26] (λv i wr=>∃(j:Nat) (q:Option Addr) (c:Nat),j<=m/\i=.int .i64 (j:Int)/\v=.slice q (zef C D m k j).length c/\Hid (qL w wr)/\Hid (wr.ownsRow w.heap.size 37 2 (.slice q (zef C D m k j).length c) (zef C D m k j).length (zbj (zef C D m k j)))/\Hid (wr.heap[T]? =some (.cells #[St x,St y] 37 (0,0)))/\Hid (some T≠(Value.slice q (zef C D m k j).length c).ownBlock))
    (λ_ i _=>m-(zL i).toNat)
   case atStart=>exact⟨0,q,c,zR _,rfl,rfl,E1,O2,B1,NB0⟩
   case round=>
    clear E1 O2 B1 NB0;obtain⟨j,q,c,hj,rfl,rfl,E2,O3,B2,NB1⟩:=hrel;by_cases hjm:j<m
    ·obtain⟨b2,off2,rfl,hb,c0,c1⟩:=T2.out j hjm
     have t2:wr.cell? ⟨b2,off2+j*2,none⟩=some (St (X2 j)):=by rw[E2.out.cell (p:=⟨b2,off2+j*2,none⟩) hb];exact c0
     have t3:wr.cell? ⟨b2,off2+j*2+1,none⟩=some (St (Y2 j)):=by rw[E2.out.cell (p:=⟨b2,off2+j*2+1,none⟩) hb];exact c1
     have M1:=hid (HCk.out j hjm);have M2:=hid (HDk.out j hjm);have hs:=z66 C D m k j;have hsm:=z5j C D hlt hj hn hm;have HS:=hid hs;generalize X2 j=x2 at*
     generalize Y2 j=y2 at*
     generalize C k j=z at*
     generalize D k j=zr at*
     generalize zef C D m k j=acc at*
     obtain⟨v2,hv⟩:=zzX (wr.alloc (.cells #[St x2,St y2] 37));have a1:qL wr v2:=by rw[hv];exact(zM _ wr).alloc (zN _) _
     have A1:v2.heap[wr.heap.size]? =some (.cells #[St x2,St y2] 37 (0,0)):=by rw[hv];exact zG wr _
     have A2:=zac a1 _ _ _ _ B2.out;have k0:v2.cell? ⟨T,0,none⟩=some (St x):=by rw[zJ A2];rfl
     have k1:v2.cell? ⟨wr.heap.size,0,none⟩=some (St x2):=by rw[zJ A1];rfl
     rw[hv] at k0 k1;have HV1:=hid hv.symm;have E3:=hid (E2.out.trans (a1.mono E2.out.size));have O4:=hid (zcj (zac a1) O3.out);have P1:=hid A1;have P2:=hid A2;clear hv a1 A1 A2 c0 c1 hb O3 E2 B2 hs;go_wp21;rw[HV1.out];clear t2 t3 k0 k1 HV1;refine zzM (M1.out v2 (HW.out _ E3.out)) λy1 hb1=>?_;have E4:=hid (E3.out.trans (hb1.mono E3.out.size));have O5:=hid (zcj (zac hb1) O4.out);have P3:=hid (zac hb1 _ _ _ _ P1.out);have P4:=hid (zac hb1 _ _ _ _ P2.out);clear hb1 E3 O4 P1 P2 M1;have k0:y1.cell? ⟨T,1,none⟩=some (St y):=by rw[zJ P4.out];rfl
     have k1:y1.cell? ⟨wr.heap.size,1,none⟩=some (St y2):=by rw[zJ P3.out];rfl
     go_wp21;refine zzM (M2.out y1 (HW.out _ E4.out)) λu1 hb1=>?_;have E5:=hid (E4.out.trans (hb1.mono E4.out.size));have O6:=hid (zcj (zac hb1) O5.out);have P5:=hid (zac hb1 _ _ _ _ P4.out);clear hb1 E4 O5 P3 P4 M2 k0 k1;go_wp2_with (at_builtin;refine wpList_append_own_at _ rfl _ _ 25 rfl w.heap.size 37 i0 (.agg #[St [],St []]) 2 32 Tryz.underlying25 hi hz0 hz1 hz2 rfl (by decide) _ _ _ rfl (O6.out.alloc _) ⟨u1.heap.size,0,none⟩ 1 1 [St z,St zr] rfl rfl (zoq _ _ _ _) (zm4 _ _) (by unfold maxLen;omega) (by omega) (by have:=E5.out.size;simp;omega) (λv' w' hown' hgrow _ hat=>?_));obtain⟨g',c',rfl, -, -⟩:=zye hown' (by omega);have F1:Hid (qL w w'):=hid ((E5.out.alloc E5.out.size _).grown hgrow (by have:=E5.out.size;simp;omega) (λq e=>(O6.out.lt q e).1));have hTu:T<u1.heap.size:=(Array.getElem?_eq_some_iff.1 P5.out).1;have P6:w'.heap[T]? =some (.cells #[St x,St y] 37 (0,0)):=by
      rw[hgrow.block T (by simp;omega) NB1.out];exact zac (show qL u1 (u1.alloc _) from(zM _ u1).alloc (zN _) _) _ _ _ _ P5.out
     have NB2:some T≠(Value.slice (some ⟨g',0,none⟩) (acc.length+1) c').ownBlock:=λe=>by
      rcases hat with h|h
      ·exact NB1.out (e.trans h)
      ·have:=e.trans h
       simp at this;omega
     have hel:(zef C D m k (j+1)).length=acc.length+1:=by rw[HS.out];simp
     have G1:Hid (w'.ownsRow w.heap.size 37 2 (.slice (some ⟨g',0,none⟩) (zef C D m k (j+1)).length c') (zef C D m k (j+1)).length (zbj (zef C D m k (j+1)))):=hid (by rw[hel,HS.out,zjb];exact hown');have HE:=hid hel;have G2:=hid P6;have G3:Hid (some T≠(Value.slice (some ⟨g',0,none⟩) (zef C D m k (j+1)).length c').ownBlock):=hid (by rw[hel];exact NB2);clear hgrow hown' hat hTu P6 NB2 hel E5 O6 P5 NB1;go_roundw
     case rel=>exact⟨j+1,some ⟨g',0,none⟩,c',by omega,by go_num,by rw[HE.out],F1,G1,G2,G3⟩
     case measure=>simp[zL];omega
    ·have hjm':j=m:=by omega
     subst hjm';have he:=z9d C D j k;have HE:=hid he;clear he;go_wp21;go_roundw
     case rel=>exact⟨k+1,q,c,by omega,by go_num,by rw[HE.out],E2,by rw[<-HE.out];exact O3⟩
     case measure=>simp[zL];omega
  ·have hkn:k=n:=by omega
   subst hkn;have he:=z68 C D m k;rw[he] at O1⊢;have HM:=hid (MK.out wr q c D1.out O1.out);clear he MK;go_wp21;refine HM.out.mono ?_;rintro e y5 ⟨q',k',c',r,rfl,h1,h2⟩;have FE:=hid (⟨D1.out.trans (h1.mono D1.out.size),h2⟩:qL w y5/\R (.slice q' k' c') r y5);clear h1 h2 HM;go_wp21;go_ret2;exact⟨q',k',c',r,rfl,FE.out.1,FE.out.2⟩
theorem z7c (p1 p2:Option Addr) (cap1 cap2 n m K:Nat) (X1 Y1 X2 Y2:Nat->List UInt8) (C D:Nat->Nat->List UInt8) (M:List (List UInt8×List UInt8)) (hn:n<=16) (hm:m<=16)
 (w:zA) (HW:Hid (∀W,qL w W->Wd W))
 (BT:Hid (qJ 120 #[.slice p1 n cap1,.slice p2 m cap2] w (.bool true)))
 (CC:Hid (∀i j,i<n->j<m->qK 9 #[St (X1 i),St (X2 j)] (.tuple #[St (C i j),.int .i64 0])))
 (DD:Hid (∀i j,i<n->j<m->qK 9 #[St (Y1 i),St (Y2 j)] (.tuple #[St (D i j),.int .i64 0])))
 (T1:Hid (∀i,i<n->∃b off,p1=some ⟨b,off,none⟩/\b<w.heap.size/\w.cell? ⟨b,off+i*2,none⟩=some (St (X1 i))/\w.cell? ⟨b,off+i*2+1,none⟩=some (St (Y1 i))))
 (T2:Hid (∀i,i<m->∃b off,p2=some ⟨b,off,none⟩/\b<w.heap.size/\w.cell? ⟨b,off+i*2,none⟩=some (St (X2 i))/\w.cell? ⟨b,off+i*2+1,none⟩=some (St (Y2 i))))
 (MK:Hid (∀(W:zA) (q:Option Addr) (c:Nat),qL w W->W.ownsRow w.heap.size 37 2 (.slice q (zi2 C D m n).length c) (zi2 C D m n).length (zbj (zi2 C D m n))->zC zF 11 #[.slice q (zi2 C D m n).length c] W λe w'=>∃q' c',e=.returned (.tuple #[.slice q' K c',.int .i64 0])/\zB W.heap.size W w'/\w'.ownsRow W.heap.size 37 2 (.slice q' K c') K (zbj M))):
 zC zF 59 #[.slice p1 n cap1,.slice p2 m cap2] w λe w'=>∃q c,e=.returned (.tuple #[.slice q K c,.int .i64 0])/\zB w.heap.size w w'/\w'.ownsRow w.heap.size 37 2 (.slice q K c) K (zbj M):=
 (z7b p1 p2 cap1 cap2 n m X1 Y1 X2 Y2 C D (λv r W=>∃q' c',v=.slice q' K c'/\r=0/\W.ownsRow w.heap.size 37 2 (.slice q' K c') K (zbj M)) hn hm w HW BT CC DD T1 T2
   (hid λW q c hW ho=>(MK.out W q c hW ho).mono λe w' ⟨q',c',h1,h2,h3⟩=>⟨q',K,c',0,h1,h2,q',c',rfl,rfl,h3.mono hW.size⟩)).mono λe w' ⟨q,k,c,r,h1,h2,q',c',h3,h4,h5⟩=>by
   subst h4;injection h3 with e1 e2 e3;subst e1;subst e2;subst e3;exact⟨q,c,h1,h2,h5⟩
end
section
open Go.RowKit Go.Shelf Lib Str Limb
theorem z5l (p:Option Addr) (cap n:Nat) (X Y:Nat->List UInt8) (L M:List (List UInt8×List UInt8)) (hn:n<=256) (hm:L.length<=5000) (ho:(zin L).length<=16)
 (CK:Hid (∀i,i<n->qK 45 #[St (X i)] (.int .i64 0)))
 (RK:Hid (∀i,i<n->qK 45 #[St (Y i)] (.int .i64 0)))
 (PF:Hid (∀i,i<n->∀W:zA,zC zF 46 #[St (Y i),.string ⟨#[45]⟩] W λe w'=>e=.returned (.bool false)/\w'=W))
 (w:zA) (HW:Hid (∀W,qL w W->Wd W))
 (HT:Hid (∀i,i<n->∃b off,p=some ⟨b,off,none⟩/\b<w.heap.size/\w.cell? ⟨b,off+i*2,none⟩=some (St (X i))/\w.cell? ⟨b,off+i*2+1,none⟩=some (St (Y i))))
 (VIS:Hid (∀u vg:zA,qL w u->qL u vg->vg.heap.size=u.heap.size+1->GatL u.heap.size [] vg->zC zF 47 #[.slice p n cap,.func (.func 48) #[.pointer (some ⟨u.heap.size,0,none⟩)] #[]] vg λe w'=>e=.returned (.int .i64 0)/\zB u.heap.size vg w'/\GatL u.heap.size L w'))
 (LG:Hid (∀(i:Nat) (c:List UInt8×List UInt8),L[i]? =some c->(c.1==[48])=false->∃a b:Int,(qK 49 #[St c.1] (.int .i64 a))/\(qK 49 #[St c.2] (.int .i64 b))/\decide (60<a)=false/\decide (40<b)=false))
 (SRT:Hid (∀(B:Nat) (W:zA) (q:Option Addr) (c:Nat),qL w W->w.heap.size<=B->B<=W.heap.size->W.ownsRow B 37 2 (.slice q (zin L).length c) (zin L).length (zbj (zin L))->zC zF 50 #[.slice q (zin L).length c,.func (.func 51) #[] #[]] W λe w'=>(∃u,e=.returned u)/\zB B W w'/\w'.ownsRow B 37 2 (.slice q (zin L).length c) (zin L).length (zbj M))):
 zC zF 11 #[.slice p n cap] w λe w'=>∃q c,e=.returned (.tuple #[.slice q (zin L).length c,.int .i64 0])/\zB w.heap.size w w'/\w'.ownsRow w.heap.size 37 2 (.slice q (zin L).length c) (zin L).length (zbj M):=by
 refine(zl0 p cap n X Y L M L.length hn hm CK RK PF w HW HT VIS (hid λi c _ hc h=>LG.out i c hc h) (hid (.inl ⟨rfl,ho,SRT.out⟩))).mono λe w' ⟨q,m,c,r,e1,hb,h⟩=>?_;rcases h with⟨rfl,_,rfl,h⟩|⟨_,h,_⟩
 ·exact⟨q,c,e1,hb,h⟩
 ·omega
end
section
open Go.RowKit Go.Shelf Lib Str Limb
attribute [local go_sem] Oper.semAt_some
structure PlsS (w:zA) (x xr y yr:List UInt8) (W:zA):Prop where
 bel:qL w W
 h0:W.heap[w.heap.size]? =some (.cells #[St x,St xr] 87 (0,0))
 h1:W.heap[w.heap.size+1]? =some (.cells #[St y,St yr] 87 (0,0))
 h2:W.heap[w.heap.size+1+1]? =some (.cells #[St [],St []] 87 (0,0))
theorem PlsS.next {w:zA} {x xr y yr:List UInt8} {W W':zA} (h:PlsS w x xr y yr W) (hb:qL W W'):PlsS w x xr y yr W':=
 have hc:=zac hb
 ⟨h.bel.trans (hb.mono h.bel.size),hc _ _ _ _ h.h0,hc _ _ _ _ h.h1,hc _ _ _ _ h.h2⟩
theorem PlsS.cells {w:zA} {x xr y yr:List UInt8} {W:zA} (h:PlsS w x xr y yr W):
 W.cell? ⟨w.heap.size,0,none⟩=some (St x)/\W.cell? ⟨w.heap.size,1,none⟩=some (St xr)/\W.cell? ⟨w.heap.size+1,0,none⟩=some (St y)/\W.cell? ⟨w.heap.size+1,1,none⟩=some (St yr)/\
 W.cell? ⟨w.heap.size+1+1,0,none⟩=some (St [])/\W.cell? ⟨w.heap.size+1+1,1,none⟩=some (St [])/\W.frozen? ⟨w.heap.size+1+1,0,none⟩=false/\W.frozen? ⟨w.heap.size+1+1,1,none⟩=false:=by
 refine⟨?_,?_,?_,?_,?_,?_,Go.Joins.unfrozen_of_block h.h2 0,Go.Joins.unfrozen_of_block h.h2 1⟩
 ·rw[zJ h.h0];rfl
 ·rw[zJ h.h0];rfl
 ·rw[zJ h.h1];rfl
 ·rw[zJ h.h1];rfl
 ·rw[zJ h.h2];rfl
 ·rw[zJ h.h2];rfl
theorem PlsS.start (w:zA) (x xr y yr:List UInt8):PlsS w x xr y yr (((w.alloc (.cells #[St x,St xr] 87)).alloc (.cells #[St y,St yr] 87)).alloc (.cells #[St [],St []] 87)):=by
 refine⟨(((zM _ w).alloc (zN _) _).alloc (by simp) _).alloc (by simp;omega) _,?_,?_,?_⟩
 ·exact(Below.heap_alloc _ _ _ (by simp;omega)).trans ((Below.heap_alloc _ _ _ (by simp)).trans (zG w _))
 ·have:=zG (w.alloc (.cells #[St x,St xr] 87)) (.cells #[St y,St yr] 87)
  rw[World.size_alloc] at this;exact(Below.heap_alloc _ _ _ (by simp)).trans this
 ·have:=zG ((w.alloc (.cells #[St x,St xr] 87)).alloc (.cells #[St y,St yr] 87)) (.cells #[St [],St []] 87)
  simp only[World.size_alloc] at this;exact this
theorem zvt (x xr y yr k m z:List UInt8) (is:Bool)
 (R:Hid (qK 114 #[St yr,St xr] (.tuple #[St k,.bool is,.int .i64 0])))
 (M:Hid (qK 9 #[St y,St k] (.tuple #[St m,.int .i64 0])))
 (A:Hid (qK 10 #[St x,St m] (.tuple #[St z,.int .i64 0])))
 (w:zA) (HW:Hid (Wd w)):
 qJ 115 #[.agg #[St x,St xr],.agg #[St y,St yr]] w (.tuple #[.agg #[St z,St xr],.int .i64 0]):=by
 have hS:=PlsS.start w x xr y yr;obtain⟨c0,c1,c2,c3,c4,c5,f0,f1⟩:=hS.cells;obtain⟨W1,hW1⟩:=zzX (((w.alloc (.cells #[St x,St xr] 87)).alloc (.cells #[St y,St yr] 87)).alloc (.cells #[St [],St []] 87));rw[<-hW1] at hS;have HS:=hid hS;have HW1:=hid hW1;clear hS hW1;go_enter Tryz.func115,Tryz.ntmps115;go_wp21;have h9:=HW1.out;rw[<-h9];clear h9 c0 c1 c2 c3 c4 c5 f0 f1;refine zzM (R.out W1 (HW.out.below HS.out.bel)) λw2 hb2=>?_;have H2:=hid (HS.out.next hb2);clear hb2 HS HW1;obtain⟨c0,c1,c2,c3,c4,c5,f0,f1⟩:=H2.out.cells;go_wp21;refine zzM (M.out w2 (HW.out.below H2.out.bel)) λw3 hb3=>?_;have H3:=hid (H2.out.next hb3);clear hb3 H2 c0 c1 c2 c3 c4 c5 f0 f1;obtain⟨c0,c1,c2,c3,c4,c5,f0,f1⟩:=H3.out.cells;go_wp21;refine zzM (A.out w3 (HW.out.below H3.out.bel)) λw4 hb4=>?_;have H4:=hid (H3.out.next hb4);clear hb4 H3 c0 c1 c2 c3 c4 c5 f0 f1;obtain⟨c0,c1,c2,c3,c4,c5,f0,f1⟩:=H4.out.cells;have hB4:=H4.out.bel;go_wp21;refine bodyPost_ret (v:=.tuple #[.agg #[St z,St xr],.int .i64 0]) (by simp[results,Tryz.results115,go_sem,c4,c5]) rfl ⟨rfl,?_⟩
 repeat(first|exact hB4|refine Below.setCell ?_ (by simp;omega) _)
theorem yab (g c:Nat) (x:List UInt8) (w:zA) (c0:w.cell? ⟨g,0,none⟩=some (St x)) (c1:w.cell? ⟨g,1,none⟩=some (.string ⟨#[49]⟩))
 (K:Hid (qJ 64 #[.slice (some ⟨g,0,none⟩) 1 c] w (.int .i64 0))):
 qJ 60 #[.slice (some ⟨g,0,none⟩) 1 c] w (.tuple #[St x,.bool true,.int .i64 0]):=by
 go_enter Tryz.func60,Tryz.ntmps60;go_wp21;refine zzM K.out λw1 hb1=>?_;have B1:=hid hb1;have d0:=zai hb1 c0;have d1:=zai hb1 c1;clear hb1 c0 c1;go_wp21;go_ret3;exact⟨rfl,B1.out⟩
theorem nm0:numS 0=[48]:=by have:=zha 0;rw[show((0:Int):Rat)=0 from rfl] at this;rw[this];decide+kernel
theorem nm2:numS 2=[50]:=by have:=zha 2;rw[show((2:Int):Rat)=2 from rfl] at this;rw[this];decide+kernel
theorem nm4:numS 4=[52]:=by have:=zha 4;rw[show((4:Int):Rat)=4 from rfl] at this;rw[this];decide+kernel
theorem nm_1:numS (-1)=[45,49]:=by have:=zha (-1);rw[show((-1:Int):Rat)= -1 from rfl] at this;rw[this];decide+kernel
theorem zb7:sz 0 1/\sz 1 1/\sz 2 1/\sz 4 1/\sz (-1) 1/\sz (-2) 1:=⟨⟨by decide,by decide⟩,⟨by decide,by decide⟩,⟨by decide,by decide⟩,⟨by decide,by decide⟩,⟨by decide,by decide⟩,⟨by decide,by decide⟩⟩
theorem zm5 {q:Rat} (h:sz q 1):okQ q:=zd0 (by omega) (by omega) h
theorem zon (a b c:Rat) (ha:sz a 1) (hb:sz b 1) (h:a*b=c) (W:zA) (hW:Wd W):qJ 9 #[St (numS a),St (numS b)] W (.tuple #[St (numS c),.int .i64 0]):=by
 rw[<-h];exact zjf a b 1 1 (by omega) (by omega) (by omega) ha hb W hW
theorem z99 (a b c:Rat) (ha:sz a 1) (hb:sz b 1) (h:a+b=c) (W:zA) (hW:Wd W):qJ 10 #[St (numS a),St (numS b)] W (.tuple #[St (numS c),.int .i64 0]):=by
 rw[<-h];exact zje a b 1 1 (by omega) (by omega) (by omega) ha hb W hW
theorem yaa (a:Rat) (ha:sz a 1) (W:zA) (hW:Wd W):qJ 18 #[St (numS a),St (numS a)] W (.tuple #[.int .i64 0,.int .i64 0]):=by
 have:=zgq a a 1 1 (by omega) (by omega) (by omega) ha ha W hW;rwa [show Geo.cmpR a a=0 by simp[Geo.cmpR]] at this
theorem zmw (q:Rat) (hq:sz q 1) (h:max (digs q.num:Int) (digs (q.den:Int):Nat)=1) (W:zA) (hW:Wd W):qJ 49 #[St (numS q)] W (.int .i64 1):=by
 have:=znp q (zm5 hq) W hW;rwa [h] at this
theorem zmx:max (digs (1:Rat).num:Int) (digs ((1:Rat).den:Int):Nat)=1/\max (digs (2:Rat).num:Int) (digs ((2:Rat).den:Int):Nat)=1/\max (digs (-1:Rat).num:Int) (digs ((-1:Rat).den:Int):Nat)=1:=by decide+kernel
theorem z27 (W:zA) (hW:Wd W):qJ 114 #[St (numS 2),St (numS 1)] W (.tuple #[.string ⟨#[]⟩,.bool false,.int .i64 0]):=by
 have:=zvz 2 1 (by decide) (by decide) (zb7.2.2.1.mono (by omega)) (zb7.2.1.mono (by omega)) 1 1 (by decide+kernel) (by decide+kernel) W hW;rwa [show(decide (1*1=((2:Rat)/1).num.natAbs)&&decide (1*1=((2:Rat)/1).den))=false by decide+kernel] at this
theorem z1z (a:Rat) (ha:0<a) (sa:sz a 1) (W:zA) (hW:Wd W):qJ 114 #[St (numS a),St (numS a)] W (.tuple #[St (numS 1),.bool true,.int .i64 0]):=by
 have e:a/a=1:=by rw[Rat.div_def];exact Rat.mul_inv_cancel a (by grind)
 have:=zvz a a (by grind) ha (sa.mono (by omega)) (sa.mono (by omega)) 1 1 (by rw[e];decide+kernel) (by rw[e];decide+kernel) W hW;rw[e,show(decide (1*1=(1:Rat).num.natAbs)&&decide (1*1=(1:Rat).den))=true by decide+kernel,if_pos rfl,show((1:Nat):Rat)/((1:Nat):Rat)=1 by decide+kernel] at this;exact this
theorem z0s (r c n:Nat) (hr:0<r) (h10:r<10) (h:zn7 r=(c,n)) (W:zA) (hW:Wd W) (hP:Pw W):qJ 113 #[St (numS (r:Rat))] W (.tuple #[St (numS (c:Rat)),St (numS (n:Rat)),.int .i64 0]):=by
 have:=z90 r hr (by rw[zae h10];simp) W hW hP;rw[h] at this;rw[zhe,zhe,zhe];exact this
def gat0:List (List UInt8×List UInt8):=[]
def gat1:List (List UInt8×List UInt8):=[(numS 1,numS 1)]
def gat2:List (List UInt8×List UInt8):=[(numS 1,numS 1),(numS (-1),numS 2)]
def gat3:List (List UInt8×List UInt8):=[(numS 1,numS 1),(numS 0,numS 2)]
def gat4:List (List UInt8×List UInt8):=[(numS (-1),numS 1),(numS 0,numS 2)]
theorem yea (gb:Nat) (W:zA) (hW:Wd W) (h:GatL gb gat0 W):zC zF 48 #[.pointer (some ⟨gb,0,none⟩),.agg #[St (numS 1),St (numS 1)]] W λe w'=>e=.returned (.int .i64 0)/\zB gb W w'/\GatL gb gat1 w':=
 zot gb gat0 _ _ (by decide) (hid λi c hc=>by simp[gat0] at hc) W (hid hW) (hid h)
theorem yeb (gb:Nat) (W:zA) (hW:Wd W) (h:GatL gb gat1 W):zC zF 48 #[.pointer (some ⟨gb,0,none⟩),.agg #[St (numS (-1)),St (numS 2)]] W λe w'=>e=.returned (.int .i64 0)/\zB gb W w'/\GatL gb gat2 w':=
 zot gb gat1 _ _ (by simp[gat1]) (hid λi c hc=>⟨_,by
  match i,hc with
  |0,hc=>simp[gat1] at hc;subst hc;exact λW hW=>z27 W hW
  |_+1,hc=>simp[gat1] at hc⟩) W (hid hW) (hid h)
theorem yec (gb:Nat) (W:zA) (hW:Wd W) (h:GatL gb gat2 W):zC zF 48 #[.pointer (some ⟨gb,0,none⟩),.agg #[St (numS 1),St (numS 2)]] W λe w'=>e=.returned (.int .i64 0)/\zB gb W w'/\GatL gb gat3 w':=
 zrp gb gat2 _ _ (numS (-1)) (numS 2) (numS 0) (numS 2) _ 1 0 false (by simp[gat2]) rfl (by decide)
  (hid λi c hi hc=>⟨_,by
    match i,hi,hc with
    |0,_,hc=>simp[gat2] at hc;subst hc;exact λW hW=>z27 W hW⟩)
  (hid λW hW=>z1z 2 (by decide) zb7.2.2.1 W hW) (hid λW hW=>yaa 2 zb7.2.2.1 W hW)
  (hid λW hW=>zvt _ _ _ _ (numS 1) (numS 1) (numS 0) true (hid λW hW=>z1z 2 (by decide) zb7.2.2.1 W hW) (hid λW hW=>zon 1 1 1 zb7.2.1 zb7.2.1 (by decide+kernel) W hW) (hid λW hW=>z99 (-1) 1 0 zb7.2.2.2.2.1 zb7.2.1 (by decide+kernel) W hW) W (hid hW)) W (hid hW) (hid h)
theorem yed (gb:Nat) (W:zA) (hW:Wd W) (h:GatL gb gat3 W):zC zF 48 #[.pointer (some ⟨gb,0,none⟩),.agg #[St (numS (-2)),St (numS 1)]] W λe w'=>e=.returned (.int .i64 0)/\zB gb W w'/\GatL gb gat4 w':=
 zrp gb gat3 _ _ (numS 1) (numS 1) (numS (-1)) (numS 1) _ 0 0 false (by simp[gat3]) rfl (by decide)
  (hid λi c hi hc=>by omega)
  (hid λW hW=>z1z 1 (by decide) zb7.2.1 W hW) (hid λW hW=>yaa 1 zb7.2.1 W hW)
  (hid λW hW=>zvt _ _ _ _ (numS 1) (numS (-2)) (numS (-1)) true (hid λW hW=>z1z 1 (by decide) zb7.2.1 W hW) (hid λW hW=>zon (-2) 1 (-2) zb7.2.2.2.2.2 zb7.2.1 (by decide+kernel) W hW) (hid λW hW=>z99 1 (-2) (-1) zb7.2.1 zb7.2.2.2.2.2 (by decide+kernel) W hW) W (hid hW)) W (hid hW) (hid h)
def exX (i:Nat):List UInt8:=if i%2=0 then numS 1 else numS (-1)
def exY (i:Nat):List UInt8:=if i=0 then numS 1 else if i=3 then numS 4 else numS 2
def exS (gb:Nat) (i:Nat):zA->Prop:=GatL gb (match i with|0=>gat0|1=>gat1|2=>gat2|3=>gat3|_=>gat4)
theorem yds (gb:Nat):∀i,i<4->∃one k n m ln,VisC gb (exX i) (exY i) (exS gb i) (exS gb (i+1)) one k n m ln
 |0,_=>⟨true,numS 1,numS 1,numS 1,1,by show(numS 1==[48])=false;rw[zfc];rfl,by show(numS 1==[48])=false;rw[zfc];rfl,by show(numS 1==[49])=true;rw[zfc];rfl,λ_=>⟨zfc,rfl⟩,λh=>(by cases h),λW hW=>zmw 1 zb7.2.1 zmx.1 W hW,by decide,λW hW=>zon 1 1 1 zb7.2.1 zb7.2.1 (by decide+kernel) W hW,λW W' h hb=>GatL.keep h (zac hb),λW hW h=>yea gb W hW h⟩
 |1,_=>⟨false,numS 1,numS 2,numS (-1),1,by show(numS (-1)==[48])=false;rw[nm_1];rfl,by show(numS 2==[48])=false;rw[nm2];rfl,by show(numS 2==[49])=false;rw[nm2];rfl,λh=>(by cases h),λ_ W hW hP=>z0s 2 1 2 (by omega) (by omega) zln.2.1 W hW hP,λW hW=>zmw 2 zb7.2.2.1 zmx.2.1 W hW,by decide,λW hW=>zon (-1) 1 (-1) zb7.2.2.2.2.1 zb7.2.1 (by decide+kernel) W hW,λW W' h hb=>GatL.keep h (zac hb),λW hW h=>yeb gb W hW h⟩
 |2,_=>⟨false,numS 1,numS 2,numS 1,1,by show(numS 1==[48])=false;rw[zfc];rfl,by show(numS 2==[48])=false;rw[nm2];rfl,by show(numS 2==[49])=false;rw[nm2];rfl,λh=>(by cases h),λ_ W hW hP=>z0s 2 1 2 (by omega) (by omega) zln.2.1 W hW hP,λW hW=>zmw 2 zb7.2.2.1 zmx.2.1 W hW,by decide,λW hW=>zon 1 1 1 zb7.2.1 zb7.2.1 (by decide+kernel) W hW,λW W' h hb=>GatL.keep h (zac hb),λW hW h=>yec gb W hW h⟩
 |3,_=>⟨false,numS 2,numS 1,numS (-2),1,by show(numS (-1)==[48])=false;rw[nm_1];rfl,by show(numS 4==[48])=false;rw[nm4];rfl,by show(numS 4==[49])=false;rw[nm4];rfl,λh=>(by cases h),λ_ W hW hP=>z0s 4 2 1 (by omega) (by omega) zln.2.2 W hW hP,λW hW=>zmw 1 zb7.2.1 zmx.1 W hW,by decide,λW hW=>zon (-1) 2 (-2) zb7.2.2.2.2.1 zb7.2.2.1 (by decide+kernel) W hW,λW W' h hb=>GatL.keep h (zac hb),λW hW h=>yed gb W hW h⟩
theorem z3n:zin gat4=[(numS (-1),numS 1)]:=by
 unfold zin gat4;rw[nm_1,nm0];rfl
theorem zqa (q:List UInt8) (h:q=[49]\/q=[50]\/q=[52]) (W:zA):zC zF 46 #[St q,.string ⟨#[45]⟩] W λe w'=>e=.returned (.bool false)/\w'=W:=by
 have hc:=Tryz.strings_HasPrefix ⟨q.toArray⟩ ⟨#[45]⟩ W;have hp:Lib.hasPrefix q [45]=false:=by rcases h with rfl|rfl|rfl<;>rfl
 rw[show(⟨q.toArray⟩:ByteArray).data.toList=q from rfl,show(⟨#[45]⟩:ByteArray).data.toList=[45] from rfl,hp] at hc;exact hc
theorem ycp (q:Option Addr) (c:Nat) (w:zA) (HW:Hid (∀W,qL w W->Wd W)) (HP:Hid (∀W,qL w W->Pw W))
 (HT:Hid (∀i,i<4->∃b off,q=some ⟨b,off,none⟩/\b<w.heap.size/\w.cell? ⟨b,off+i*2,none⟩=some (St (exX i))/\w.cell? ⟨b,off+i*2+1,none⟩=some (St (exY i)))):
 zC zF 11 #[.slice q 4 c] w λe w'=>∃q' c',e=.returned (.tuple #[.slice q' 1 c',.int .i64 0])/\zB w.heap.size w w'/\w'.ownsRow w.heap.size 37 2 (.slice q' 1 c') 1 (zbj [(numS (-1),numS 1)]):=by
 have ok1:=zfj 1 (zm5 zb7.2.1);have ok2:=zfj 2 (zm5 zb7.2.2.1);have ok4:=zfj 4 (zm5 zb7.2.2.2.1);have okm:=zfj (-1) (zm5 zb7.2.2.2.2.1)
 have hm:=z5l q c 4 exX exY gat4 [(numS (-1),numS 1)] (by omega) (by simp[gat4]) (by rw[z3n];simp)
  (hid λi hi W hW=>match i,hi with
    |0,_=>ok1 W hW|1,_=>okm W hW|2,_=>ok1 W hW|3,_=>okm W hW)
  (hid λi hi W hW=>match i,hi with
    |0,_=>ok1 W hW|1,_=>ok2 W hW|2,_=>ok2 W hW|3,_=>ok4 W hW)
  (hid λi hi W=>match i,hi with
    |0,_=>zqa _ (.inl zfc) W|1,_=>zqa _ (.inr (.inl nm2)) W|2,_=>zqa _ (.inr (.inl nm2)) W|3,_=>zqa _ (.inr (.inr nm4)) W)
  w HW HT
  (hid λu vg h1 h2 h3 h4=>by
    have hs:=h1.size
    exact z4e u.heap.size q c 4 exX exY (exS u.heap.size) (by omega) (hid (yds u.heap.size)) vg (by omega)
     (hid λW h=>HW.out _ (h1.trans ((h2.trans h).mono hs))) (hid λW h=>HP.out _ (h1.trans ((h2.trans h).mono hs))) h4
     (hid λi hi=>by
       obtain⟨b,off,e,hb,c0,c1⟩:=HT.out i hi;have hB:qL w vg:=h1.trans (h2.mono hs);exact⟨b,off,e,by omega,by rw[hB.cell (p:=⟨b,off+i*2,none⟩) hb];exact c0,by rw[hB.cell (p:=⟨b,off+i*2+1,none⟩) hb];exact c1⟩))
  (hid λi c hc h0=>⟨1,1,by
    match i,hc with
    |0,hc=>simp[gat4] at hc;subst hc;exact⟨λW hW=>zmw (-1) zb7.2.2.2.2.1 zmx.2.2 W hW,λW hW=>zmw 1 zb7.2.1 zmx.1 W hW,by decide,by decide⟩
    |1,hc=>simp[gat4] at hc;subst hc;rw[nm0] at h0;cases h0
    |_+2,hc=>simp[gat4] at hc⟩)
  (hid λB W q c h1 h2 h3 h4=>by
    rw[z3n] at h4⊢;exact(z43 q c _ W).mono λe w' ⟨h5,h6⟩=>⟨h5,by rw[h6];exact zM _ _,by rw[h6];exact h4⟩)
 rw[z3n] at hm;exact hm
def scK (C Y:Nat->List UInt8):Nat->List (List UInt8×List UInt8)
 |0=>[]
 |k+1=>scK C Y k++[(C k,Y k)]
theorem z6y (p:Option Addr) (cap n:Nat) (X Y C:Nat->List UInt8) (c:List UInt8) (hn:n<=256)
 (w:zA) (HW:Hid (∀W,qL w W->Wd W))
 (M:Hid (∀i,i<n->qK 9 #[St (X i),St c] (.tuple #[St (C i),.int .i64 0])))
 (T:Hid (∀i,i<n->∃b off,p=some ⟨b,off,none⟩/\b<w.heap.size/\w.cell? ⟨b,off+i*2,none⟩=some (St (X i))/\w.cell? ⟨b,off+i*2+1,none⟩=some (St (Y i)))):
 zC zF 121 #[.slice p n cap,St c] w λe w'=>∃q d,e=.returned (.tuple #[.slice q n d,.int .i64 0])/\zB w.heap.size w w'/\w'.ownsRow w.heap.size 37 2 (.slice q n d) n (zbj (scK C Y n)):=by
 obtain⟨i0,hi,hz0,hz1,hz2⟩:=info_parts zsc;have D0:=hid (zM w.heap.size w);have O0:=hid (show w.ownsRow w.heap.size 37 2 (.slice none 0 0) 0 (zbj (scK C Y 0)) from World.ownsRow_nil _ _ _ _);go_enter Tryz.func121,Tryz.ntmps121;go_wp21;go_loopw [6,13] (λv i wr=>∃(k:Nat) (q:Option Addr) (d:Nat),k<=n/\i=.int .i64 (k:Int)/\v=.slice q k d/\Hid (qL w wr)/\Hid (wr.ownsRow w.heap.size 37 2 (.slice q k d) k (zbj (scK C Y k))))
  (λ_ i _=>n-(zL i).toNat)
 case atStart=>exact⟨0,none,0,zR _,rfl,rfl,D0,O0⟩
 case round=>
  clear D0 O0;obtain⟨k,q,d,hk,rfl,rfl,D1,O1⟩:=hrel;by_cases hlt:k<n
  ·obtain⟨b,off,rfl,hb,c0,c1⟩:=T.out k hlt
   have t0:wr.cell? ⟨b,off+k*2,none⟩=some (St (X k)):=by rw[D1.out.cell (p:=⟨b,off+k*2,none⟩) hb];exact c0
   have t1:wr.cell? ⟨b,off+k*2+1,none⟩=some (St (Y k)):=by rw[D1.out.cell (p:=⟨b,off+k*2+1,none⟩) hb];exact c1
   have M1:=hid (M.out k hlt);have HS:=hid (show scK C Y (k+1)=scK C Y k++[(C k,Y k)] from rfl);generalize X k=x at*
   generalize Y k=y at*
   generalize C k=z at*
   obtain⟨v1,hv⟩:=zzX (wr.alloc (.cells #[St x,St y] 37));have a1:qL wr v1:=by rw[hv];exact(zM _ wr).alloc (zN _) _
   have A1:v1.heap[wr.heap.size]? =some (.cells #[St x,St y] 37 (0,0)):=by rw[hv];exact zG wr _
   have k0:v1.cell? ⟨wr.heap.size,0,none⟩=some (St x):=by rw[zJ A1];rfl
   rw[hv] at k0;have HV1:=hid hv.symm;have E1:=hid (D1.out.trans (a1.mono D1.out.size));have B1:=hid A1;have O2:=hid (zcj (zac a1) O1.out);clear hv a1 A1 c0 c1 hb O1;go_wp21;rw[HV1.out];clear t0 t1 k0 HV1;refine zzM (M1.out v1 (HW.out _ E1.out)) λu1 hb1=>?_;have E2:=hid (E1.out.trans (hb1.mono E1.out.size));have O3:=hid (zcj (zac hb1) O2.out);have B2:=hid (zac hb1 _ _ _ _ B1.out);clear hb1 E1 O2 B1 M1;have k1:u1.cell? ⟨wr.heap.size,1,none⟩=some (St y):=by rw[zJ B2.out];rfl
   go_wp2_with (at_builtin;refine wpList_append_own _ rfl _ _ 25 rfl w.heap.size 37 i0 (.agg #[St [],St []]) 2 32 Tryz.underlying25 hi hz0 hz1 hz2 rfl (by decide) _ _ _ rfl (O3.out.alloc _) ⟨u1.heap.size,0,none⟩ 1 1 [St z,St y] rfl rfl (zoq _ _ _ _) (zm4 _ _) (by unfold maxLen;omega) (by omega) (by have:=E2.out.size;simp;omega) (λv' w' hown' hgrow _=>?_));obtain⟨g',c',rfl, -, -⟩:=zye hown' (by omega);have F1:Hid (qL w w'):=hid ((E2.out.alloc E2.out.size _).grown hgrow (by have:=E2.out.size;simp;omega) (λq e=>(O3.out.lt q e).1));have G1:Hid (w'.ownsRow w.heap.size 37 2 (.slice (some ⟨g',0,none⟩) (k+1) c') (k+1) (zbj (scK C Y (k+1)))):=hid (by rw[HS.out,zjb];exact hown');clear hgrow hown' E2 O3 B2 k1;go_roundw
   case rel=>exact⟨k+1,some ⟨g',0,none⟩,c',by omega,by go_num,rfl,F1,G1⟩
   case measure=>simp[zL];omega
  ·have hkn:k=n:=by omega
   subst hkn;go_wp21;go_ret2;exact⟨q,d,rfl,D1.out,O1.out⟩
def spV:Array Value:= #[.int .i64 4,.int .i64 16,.int .i64 64]
structure Spw (w:zA):Prop where
 pl:w.var? zF "kingpost/surd.signPlaces" =some spV
theorem Spw.below {w w':zA} (h:Spw w) (hb:qL w w'):Spw w':=by
 have hg:Tryz.prog.globalNamed "kingpost/surd.signPlaces" =some 0:=by kernel_rfl
 exact⟨var?_below hb hg (zv5 hg h.pl) h.pl⟩
theorem Spw.block {w:zA} (h:Spw w):∃t fz,w.heap[0]? =some (.cells spV t fz):=by
 have hg:Tryz.prog.globalNamed "kingpost/surd.signPlaces" =some 0:=by kernel_rfl
 have hv:=h.pl;unfold World.var? at hv;rw[hg] at hv;simp only[Option.bind_some] at hv
 cases hb:w.heap[(0:Nat)]? with
 |none=>rw[hb] at hv;cases hv
 |some x=>
  rw[hb] at hv
  cases x with
  |cells cs t fz=>simp at hv;subst hv;exact⟨t,fz,rfl⟩
  |_=>cases hv
def plN:Nat->Nat
 |0=>4
 |1=>16
 |_=>64
theorem z8x (i:Nat) (hi:i<3) (w:zA):(Instr.index 170 (.agg spV) (.int .i64 (i:Int))).run zF w=.ok (.int .i64 (plN i:Int)) w:=
 match i,hi with
 |0,_=>by kernel_rfl
 |1,_=>by kernel_rfl
 |2,_=>by kernel_rfl
theorem z3o (p:Option Addr) (cap n:Nat) (h0:0<n) (hn:n<=100) (X Y F S T:Nat->List UInt8) (c m sg:Int) (hS0:S 0=[48])
 (FL:Hid (∀i,i<n->qK 123 #[.agg #[St (X i),St (Y i)],.int .i64 4] (St (F i))))
 (AD:Hid (∀i,i<n->qK 44 #[St (S i),St (F i)] (.tuple #[St (S (i+1)),.int .i64 0])))
 (CM:Hid (qK 70 #[St (S n),.string ⟨#[48]⟩] (.tuple #[.int .i64 c,.int .i64 0])))
 (HS:Hid ((decide (0<c)=true/\sg=1)\/(decide (0<c)=false/\sg= -1/\T 0=S n/\decide (m<0)=true/\(∀i,i<n->qK 44 #[St (T i),.string ⟨#[49]⟩] (.tuple #[St (T (i+1)),.int .i64 0]))/\qK 70 #[St (T n),.string ⟨#[48]⟩] (.tuple #[.int .i64 m,.int .i64 0]))))
 (w:zA) (HW:Hid (Wd w)) (HP:Hid (Spw w))
 (HT:Hid (∀i,i<n->∃b off,p=some ⟨b,off,none⟩/\b<w.heap.size/\w.cell? ⟨b,off+i*2,none⟩=some (St (X i))/\w.cell? ⟨b,off+i*2+1,none⟩=some (St (Y i)))):
 qJ 53 #[.slice p n cap] w (.tuple #[.int .i64 sg,.int .i64 0]):=by
 obtain⟨tt,fz,hblk⟩:=HP.out.block;have hx:∀w,(Instr.index 170 (.agg spV) (.int .i64 0)).run zF w=.ok (.int .i64 4) w:=λw=>z8x 0 (by omega) w;have hz:((n:Int)==0)=false:=by rw[beq_eq_false_iff_ne];omega
 have D0:=hid (zM w.heap.size w);go_enter Tryz.func53,Tryz.ntmps53;go_wp2_with (refine wpList_load_row rfl 170 (.global 0) rfl 0 rfl tt spV fz (.array 3 3) hblk (by kernel_rfl) rfl (by kernel_rfl) ?_);refine wp_loop_rounds 1 ?_;rw[rounds_succ];go_wp21;clear hblk hx;have hS:Value.string ⟨#[48]⟩=St (S 0):=by rw[hS0]
 rw[hS];clear hS hS0;go_loopw [6,23] (λv i wr=>∃(k:Nat),k<=n/\i=.int .i64 (k:Int)/\v=St (S k)/\Hid (qL w wr))
  (λ_ i _=>n-(zL i).toNat)
 case atStart=>exact⟨0,zR _,rfl,rfl,D0⟩
 case round=>
  obtain⟨k,hk,rfl,rfl,D1⟩:=hrel;by_cases hlt:k<n
  ·obtain⟨b,off,rfl,hb,c0,c1⟩:=HT.out k hlt
   have t0:wr.cell? ⟨b,off+k*2,none⟩=some (St (X k)):=by rw[D1.out.cell (p:=⟨b,off+k*2,none⟩) hb];exact c0
   have t1:wr.cell? ⟨b,off+k*2+1,none⟩=some (St (Y k)):=by rw[D1.out.cell (p:=⟨b,off+k*2+1,none⟩) hb];exact c1
   have M1:=hid (FL.out k hlt);have M2:=hid (AD.out k hlt);generalize X k=x at*
   generalize Y k=y at*
   generalize F k=z at*
   generalize S k=sk at*
   obtain⟨v1,hv⟩:=zzX (wr.alloc (.cells #[St x,St y] 37));have a1:qL wr v1:=by rw[hv];exact(zM _ wr).alloc (zN _) _
   have A1:v1.heap[wr.heap.size]? =some (.cells #[St x,St y] 37 (0,0)):=by rw[hv];exact zG wr _
   have k0:v1.cell? ⟨wr.heap.size,0,none⟩=some (St x):=by rw[zJ A1];rfl
   have k1:v1.cell? ⟨wr.heap.size,1,none⟩=some (St y):=by rw[zJ A1];rfl
   rw[hv] at k0 k1;have HV1:=hid hv.symm;have E1:=hid (D1.out.trans (a1.mono D1.out.size));clear hv a1 A1 c0 c1 hb;go_wp21;rw[HV1.out];clear t0 t1 k0 k1 HV1;refine zzM (M1.out v1 (HW.out.below E1.out)) λu1 hb1=>?_;have E2:=hid (E1.out.trans (hb1.mono E1.out.size));clear hb1 E1 M1;go_wp21;refine zzM (M2.out u1 (HW.out.below E2.out)) λu2 hb1=>?_;have E3:=hid (E2.out.trans (hb1.mono E2.out.size));clear hb1 E2 M2;go_wp21;go_roundw
   case rel=>exact⟨k+1,by omega,by go_num,rfl,E3⟩
   case measure=>simp[zL];omega
  ·have hkn:k=n:=by omega
   subst hkn;clear FL AD HT;go_wp21;refine zzM (CM.out wr (HW.out.below D1.out)) λu1 hb1=>?_;have E1:=hid (D1.out.trans (hb1.mono D1.out.size));clear hb1 CM;rcases HS.out with⟨h1,rfl⟩|⟨h1,rfl,hT,h2,hA,hC⟩
   ·go_wp21
    go_ret2;exact⟨rfl,E1.out⟩
   ·have HA:=hid hA;have HC:=hid hC
    rw[<-hT];clear hA hC HS hT;go_wp21;go_loopw [6,45] (λv i wr=>∃(j:Nat),j<=k/\i=.int .i64 (j:Int)/\v=St (T j)/\Hid (qL w wr))
     (λ_ i _=>k-(zL i).toNat)
    case atStart=>exact⟨0,zR _,rfl,rfl,E1⟩
    case round=>
     obtain⟨j,hj,rfl,rfl,D2⟩:=hrel;by_cases hlt:j<k
     ·have M2:=hid (HA.out j hlt)
      generalize T j=tj at*
      go_wp21;refine zzM (M2.out _ (HW.out.below D2.out)) λu2 hb1=>?_;have E3:=hid (D2.out.trans (hb1.mono D2.out.size));clear hb1 M2;go_wp21;go_roundw
      case rel=>exact⟨j+1,by omega,by go_num,rfl,E3⟩
      case measure=>simp[zL];omega
     ·have hjk:j=k:=by omega
      subst hjk;go_wp21;refine zzM (HC.out _ (HW.out.below D2.out)) λu2 hb1=>?_;have E3:=hid (D2.out.trans (hb1.mono D2.out.size));clear hb1 HC;go_wp21;go_ret2;exact⟨rfl,E3.out⟩
theorem znq (n s:Nat) (hs:s*s<=n/\n<(s+1)*(s+1)) (hl:(zD n).length<=290) (w:zA) (hw:Wd w):
 qJ 78 #[St (zD n)] w (.tuple #[St (zD s),.int .i64 0]):=by
 obtain⟨t,ht⟩:=zzX (⟨(zD n).toArray⟩:ByteArray);obtain⟨s1,s2,s3,s4⟩:=zco _ (zci n) t ht;obtain⟨c,r,hd,hc1,hc2⟩:=dec_head n;have h45:(((t[0]'s2).toNat:Int)==45)=false:=by
  rw[beq_eq_false_iff_ne,s4 s2];simp only[hd,List.head_cons];omega
 have ck:∀W:zA,qJ 152 #[.string t] W (.int .i64 0):=λW=>by
  have:=zl4 (n:Int) (by unfold digs;rw[Int.natAbs_natCast];omega) W;rw[Str.zad] at this;rw[ht];exact this
 have rd:∀W:zA,zC zF 105 #[.string t] W λe w'=>∃v,e=.returned (.agg #[.bool false,v])/\Sl w' v ((zaa B9 n).map I)/\zB W.heap.size W w':=λW=>by
  have:=zc3 (n:Int) W (by unfold digs;rw[Int.natAbs_natCast];omega);rw[Str.zad,decide_eq_false (by omega),Int.natAbs_natCast] at this;rw[ht];exact this
 show zC _ _ #[.string ⟨(zD n).toArray⟩] _ _;rw[<-ht];by_cases h0:n=0
 ·have hs0:s=0:=by
   by_cases d:s=0
   ·exact d
   ·have:=Nat.mul_pos (show 0<s by omega) (show 0<s by omega);omega
  have h48:(t.toList==[48])=true:=by rw[ht,ByteArray.toList_eq,h0,zae (by omega)];rfl
  have:=z7g t s2 h45 h48 (hid ck) w;rw[hs0];rw[show St (zD 0)=.string t by rw[ht,h0]];exact this
 ·have h48:(t.toList==[48])=false:=zhl ht 0 (by omega) h0
  by_cases hsm:(zD n).length<=18
  ·have hn18:n<1000000000000000000:=(zaf n 18 (by omega)).1 hsm
   refine z6p t n s s2 h45 h48 (by omega) (hid ck) (hid rd) (hid λW hW=>?_) w (hid hw);refine zd3 t n s (by omega) (hid hn18) (hid hs) (hid λW=>?_) (hid λW hW=>?_) W (hid hW)
   ·have:=znc (n:Int) (by rw[Str.zad];exact hsm) W
    rw[Str.zad] at this;rw[ht];exact this
   ·have hsn:s<=n:=zO (Nat.le_mul_self s) hs.1
    have:=zb3 (s:Int) (by omega) (by omega) W hW;rw[Str.zad] at this;exact this
  ·obtain⟨k,hk⟩:∃k,(t.size+1)/2=k:=⟨_,rfl⟩
   have hn2:n<10^(2*k):=(zaf n (2*k) (by omega)).1 (by omega);have hk2:k<=146:=by omega
   have hX:=z7e hs.1 hn2;have hrep:=λW=>Tryz.strings_Repeat ⟨#[48]⟩ k W (by omega) (by show 1*k<=_;omega);have b9:∀m,m<10^320->(zaa B9 m).length<=400:=λm hm=>zO (zfv (k:=36) (by decide) (Nat.lt_of_lt_of_le hm (by decide+kernel))) (by omega);have n200:n<10^290:=(zaf n 290 (by omega)).1 hl;have x101:10^k<=10^146:=Nat.pow_le_pow_right (by omega) hk2;have p1:(10:Nat)^290+10^146<=10^320:=by decide+kernel
   have y1:(⟨#[49]⟩:ByteArray)++⟨(Lib.repeatL [48] k).toArray⟩=⟨(zD (10^k)).toArray⟩:=by
    rw[z13,zhy];exact z7h [49] (List.replicate k 48)
   refine z7f t ⟨(Lib.repeatL [48] k).toArray⟩ ⟨(zD (10^k)).toArray⟩ n s k (10^k) (hid hs) (by omega) (Nat.pos_of_ne_zero (by simp)) hX (hid ⟨b9 _ (by omega),b9 _ (by omega),b9 _ (by omega)⟩) s2 h45 h48 (by omega) (by omega) hk (hid ck) (hid rd) (hid hrep) (hid λW=>?_) ?_ y1 ?_ w (hid hw)
   ·have hx2:10^k<10^147:=Nat.pow_lt_pow_right (by omega) (by omega)
    have:=zc3 ((10^k:Nat):Int) W (by unfold digs;rw[Int.natAbs_natCast];exact zO ((zaf _ 147 (by omega)).2 hx2) (by omega));rw[Str.zad,decide_eq_false (by omega),Int.natAbs_natCast] at this;exact this
   ·show(Lib.repeatL [48] k).toArray.size<=1000
    rw[zhy];simp;omega
   ·unfold digs
    rw[Int.natAbs_natCast];exact zO ((zaf _ 147 (by omega)).2 (Nat.lt_of_le_of_lt (zO hX x101) (Nat.pow_lt_pow_right (by omega) (by omega)))) (by omega)
theorem z3j (c r d a1 a2 ten a3 rt q rest res:List UInt8) (n again zb:ByteArray) (hzb:zb.size<=1000) (ps:Nat) (hps:ps<=100) (n0:0<n.size) (ng:Bool)
 (hng:(((n[0]'n0).toNat:Int)==45)=ng)
 (P:Hid (qK 116 #[St c] (.tuple #[.string n,St d,.int .i64 0])))
 (M1:Hid (qK 41 #[.string n,.string n] (.tuple #[St a1,.int .i64 0])))
 (M2:Hid (qK 41 #[St a1,St r] (.tuple #[St a2,.int .i64 0])))
 (RP:Hid (∀W:zA,qJ 76 #[.string ⟨#[48]⟩,.int .i64 (2*(ps:Int))] W (.string zb)))
 (TN:Hid ((⟨#[49]⟩:ByteArray)++zb=⟨ten.toArray⟩))
 (M3:Hid (qK 41 #[St a2,St ten] (.tuple #[St a3,.int .i64 0])))
 (R:Hid (qK 78 #[St a3] (.tuple #[St rt,.int .i64 0])))
 (D:Hid (qK 111 #[St rt,St d] (.tuple #[St q,St rest,.int .i64 0])))
 (hpos:ng=false->q=res)
 (M4:Hid (ng=true->qK 41 #[St rt,St rt] (.tuple #[.string again,.int .i64 0])))
 (E:Hid (ng=true->((again.toList==a3)=true/\(rest==[48])=true/\qK 38 #[.string ⟨#[48]⟩,St q] (.tuple #[St res,.int .i64 0]))\/
   (((again.toList==a3)=false\/(rest==[48])=false)/\∃q1,(qK 44 #[St q,.string ⟨#[49]⟩] (.tuple #[St q1,.int .i64 0]))/\qK 38 #[.string ⟨#[48]⟩,St q1] (.tuple #[St res,.int .i64 0]))))
 (w:zA) (HW:Hid (Wd w)):
 qJ 123 #[.agg #[St c,St r],.int .i64 (ps:Int)] w (St res):=by
 have hw2:IntKind.i64.wrap (2*(ps:Int))=2*(ps:Int):=zI _ (by omega);obtain⟨v1,hv⟩:=zzX (w.alloc (.cells #[St c,St r] 37));have a1':qL w v1:=by rw[hv];exact(zM _ w).alloc (zN _) _
 have A1:v1.heap[w.heap.size]? =some (.cells #[St c,St r] 37 (0,0)):=by rw[hv];exact zG w _
 have k0:v1.cell? ⟨w.heap.size,0,none⟩=some (St c):=by rw[zJ A1];rfl
 rw[hv] at k0;have HV1:=hid hv.symm;have E1:=hid a1';have B1:=hid A1;clear hv a1' A1;go_enter Tryz.func123,Tryz.ntmps123;go_wp21;rw[HV1.out];clear k0 HV1;refine zzM (P.out v1 (HW.out.below E1.out)) λy1 hb1=>?_;have E2:=hid (E1.out.trans (hb1.mono E1.out.size));have B2:=hid (zac hb1 _ _ _ _ B1.out);clear hb1 E1 B1;go_wp21;refine zzM (M1.out y1 (HW.out.below E2.out)) λy2 hb1=>?_;have E3:=hid (E2.out.trans (hb1.mono E2.out.size));have B3:=hid (zac hb1 _ _ _ _ B2.out);clear hb1 E2 B2;have k1:y2.cell? ⟨w.heap.size,1,none⟩=some (St r):=by rw[zJ B3.out];rfl
 go_wp21;refine zzM (M2.out y2 (HW.out.below E3.out)) λy3 hb1=>?_;have E4:=hid (E3.out.trans (hb1.mono E3.out.size));clear hb1 E3 B3 k1;go_wp21;refine zzM (RP.out y3) λy4 hb1=>?_;have E5:=hid (E4.out.trans (hb1.mono E4.out.size));clear hb1 E4;go_wp21;rw[TN.out];refine zzM (M3.out y4 (HW.out.below E5.out)) λy5 hb1=>?_;have E6:=hid (E5.out.trans (hb1.mono E5.out.size));clear hb1 E5;go_wp21;refine zzM (R.out y5 (HW.out.below E6.out)) λy6 hb1=>?_;have E7:=hid (E6.out.trans (hb1.mono E6.out.size));clear hb1 E6;go_wp21;refine zzM (D.out y6 (HW.out.below E7.out)) λy7 hb1=>?_;have E8:=hid (E7.out.trans (hb1.mono E7.out.size));clear hb1 E7;cases ng
 ·obtain rfl:=hpos rfl
  clear M4 E;go_wp21;go_ret;exact⟨rfl,E8.out⟩
 ·have HM4:=hid (M4.out rfl);have HE:=hid (E.out rfl)
  clear M4 E hpos;go_wp21;refine zzM (HM4.out y7 (HW.out.below E8.out)) λy8 hb1=>?_;have E9:=hid (E8.out.trans (hb1.mono E8.out.size));clear hb1 E8 HM4;rcases HE.out with⟨e1,e2,hs⟩|⟨e1,q1,ha,hs⟩
  ·have HS:=hid hs;clear HE hs
   go_wp21;refine zzM (HS.out y8 (HW.out.below E9.out)) λy9 hb1=>?_;have F1:=hid (E9.out.trans (hb1.mono E9.out.size));clear hb1;go_wp21;go_ret;exact⟨rfl,F1.out⟩
  ·have HS:=hid hs;have HA:=hid ha;clear HE hs ha
   rcases e1 with e1|e1
   ·go_wp21
    refine zzM (HA.out y8 (HW.out.below E9.out)) λz1 hb1=>?_;have F1:=hid (E9.out.trans (hb1.mono E9.out.size));clear hb1;go_wp21;refine zzM (HS.out z1 (HW.out.below F1.out)) λz2 hb1=>?_;have F2:=hid (F1.out.trans (hb1.mono F1.out.size));clear hb1;go_wp21;go_ret;exact⟨rfl,F2.out⟩
   ·cases e2:(again.toList==a3)
    ·go_wp21
     refine zzM (HA.out y8 (HW.out.below E9.out)) λz1 hb1=>?_;have F1:=hid (E9.out.trans (hb1.mono E9.out.size));clear hb1;go_wp21;refine zzM (HS.out z1 (HW.out.below F1.out)) λz2 hb1=>?_;have F2:=hid (F1.out.trans (hb1.mono F1.out.size));clear hb1;go_wp21;go_ret;exact⟨rfl,F2.out⟩
    ·go_wp21
     refine zzM (HA.out y8 (HW.out.below E9.out)) λz1 hb1=>?_;have F1:=hid (E9.out.trans (hb1.mono E9.out.size));clear hb1;go_wp21;refine zzM (HS.out z1 (HW.out.below F1.out)) λz2 hb1=>?_;have F2:=hid (F1.out.trans (hb1.mono F1.out.size));clear hb1;go_wp21;go_ret;exact⟨rfl,F2.out⟩
def floT (c:Rat) (s N:Nat):Int:=if c.num<0 then-((s/c.den+(if s*s=N/\s%c.den=0 then 0 else 1):Nat):Int) else((s/c.den:Nat):Int)
theorem z3u (x y:Nat) (hx:(zD x).length<=300) (hy:(zD y).length<=300) (hxy:(zD (x*y)).length<=300) (w:zA) (hw:Wd w):
 qJ 41 #[St (zD x),St (zD y)] w (.tuple #[St (zD (x*y)),.int .i64 0]):=by
 have hz:digs ((x:Int)*(y:Int))<=300:=by rw[<-Int.natCast_mul,zd9];exact hxy
 have:=zhk (x:Int) (y:Int) (by rw[zd9];exact hx) (by rw[zd9];exact hy) w hw;rw[zcf hz,zcg hz,<-Int.natCast_mul,Str.zad,Str.zad,Str.zad] at this;exact this
theorem zva (x y:Int) (hx:digs x<=300) (hy:digs y<=300) (hxy:digs (x+y)<=300) (w:zA) (hw:Wd w):
 qJ 44 #[St (zE x),St (zE y)] w (.tuple #[St (zE (x+y)),.int .i64 0]):=by
 have:=z1c x y hx hy w hw;rwa [zcf hxy,zcg hxy] at this
theorem z6j (x y:Int) (hx:digs x<=300) (hy:digs y<=300) (hxy:digs (x-y)<=300) (w:zA) (hw:Wd w):
 qJ 38 #[St (zE x),St (zE y)] w (.tuple #[St (zE (x-y)),.int .i64 0]):=by
 have:=z1e x y hx hy w hw;rwa [zcf hxy,zcg hxy] at this
theorem z6a (x:Int) (h0:0<(⟨(zE x).toArray⟩:ByteArray).size):((((⟨(zE x).toArray⟩:ByteArray)[0]'h0).toNat:Int)==45)=decide (x<0):=by
 obtain⟨s1,s2,s3,s4⟩:=zco (zE x) (by rcases zbg x with⟨_,e⟩|⟨_,e⟩<;>rw[e];exact zci _;simp) _ rfl;rw[s4 h0];rcases zbg x with⟨hx,e⟩|⟨hx,e⟩
 ·obtain⟨c,r,hd,hc1,hc2⟩:=dec_head x.natAbs
  rw[decide_eq_false (by omega),beq_eq_false_iff_ne];simp only[e,hd,List.head_cons];omega
 ·rw[decide_eq_true (by omega)]
  simp only[e,List.head_cons];rfl
theorem zul (c:Rat) (r ps s N:Nat) (hoc:okQ c) (hc0:c≠0) (hr:0<r) (hps:ps<=100) (hN:c.num.natAbs*c.num.natAbs*r*10^(2*ps)=N) (hl:(zD N).length<=290) (hs:s*s<=N/\N<(s+1)*(s+1)) (w:zA) (hw:Wd w):
 qJ 123 #[.agg #[St (numS c),St (zD r)],.int .i64 (ps:Int)] w (St (zE (floT c s N))):=by
 obtain⟨n,hn⟩:=zzX c.num.natAbs;have n0:0<n:=by
  have:c.num≠0:=λe=>hc0 (Rat.num_eq_zero.1 e);omega
 obtain⟨t,ht⟩:=zzX (10^(2*ps));have t0:0<t:=by rw[ht];exact Nat.pos_of_ne_zero (by simp)
 rw[<-hn,<-ht] at hN;have le1:n<=n*n:=Nat.le_mul_self n;have le2:n*n<=n*n*r:=Nat.le_mul_of_pos_right _ hr;have le3:n*n*r<=n*n*r*t:=Nat.le_mul_of_pos_right _ t0;have le4:r<=n*n*r:=Nat.le_mul_of_pos_left _ (Nat.mul_pos n0 n0);have le5:t<=n*n*r*t:=Nat.le_mul_of_pos_left _ (Nat.mul_pos (Nat.mul_pos n0 n0) hr);rw[hN] at le3 le5;have len:∀{m:Nat},m<=N->(zD m).length<=300:=λh=>by have:=zt9 h;omega
 have hsN:s<=N:=z6f hs.1;have hsd:=Nat.div_le_self s c.den;have hN200:N<10^290:=(zaf N 290 (by omega)).1 hl;have p1:(10:Nat)^290+1<10^291:=by decide+kernel
 have dlen:∀z:Int,z.natAbs<=N+1->digs z<=300:=λz hz=>by
  have:=(zaf z.natAbs 291 (by omega)).2 (by omega);unfold digs;omega
 have hneg:∀k:Nat,k<=N+1->((0:Int)-(k:Int)).natAbs<=N+1:=λk h=>by omega
 have hpos:∀k:Nat,k<=N->((k:Int)+1).natAbs<=N+1:=λk h=>by omega
 have z48:zE 0=[48]:=zb9;have z49:zE 1=[49]:=by rw[show(1:Int)=((1:Nat):Int) from rfl,Str.zad,zae (by omega)];rfl
 have hdl:(zD c.den).length<=300:=hoc.2;have hrep:=λW=>Tryz.strings_Repeat ⟨#[48]⟩ (2*ps) W (by omega) (by show 1*(2*ps)<=_;omega);have hi0:0<(⟨(zE c.num).toArray⟩:ByteArray).size:=(zco (zE c.num) (by rcases zbg c.num with⟨_,e⟩|⟨_,e⟩<;>rw[e];exact zci _;simp) _ rfl).2.1
 refine z3j (numS c) (zD r) (zD c.den) (zD (n*n)) (zD (n*n*r)) (zD t) (zD N) (zD s) (zD (s/c.den)) (zD (s%c.den)) (zE (floT c s N)) ⟨(zE c.num).toArray⟩ ⟨(zD (s*s)).toArray⟩ ⟨(Lib.repeatL [48] (2*ps)).toArray⟩ (by show(Lib.repeatL [48] (2*ps)).toArray.size<=1000;rw[zhy];simp;omega) ps hps hi0 (decide (c.num<0)) (z6a c.num hi0)
  (hid λW hW=>zk5 c hoc W hW) (hid λW hW=>?_) (hid λW hW=>z3u _ _ (len (by omega)) (len (by omega)) (len le3) W hW) (hid λW=>?_) (hid ?_) (hid λW hW=>?_) (hid λW hW=>znq N s hs hl W hW) (hid λW hW=>zzn s c.den c.den_pos (len hsN) hdl W hW)
  (λh=>?_) (hid λ_ W hW=>z3u _ _ (len hsN) (len hsN) (len hs.1) W hW) (hid λh=>?_) w (hid hw)
 ·have hz:digs (c.num*c.num)<=300:=dlen _ (by rw[Int.natAbs_mul,<-hn];omega)
  have:=zhk c.num c.num hoc.1 hoc.1 W hW;rw[zcf hz,zcg hz,<-Int.natAbs_mul_self,Str.zad,<-hn] at this;exact this
 ·have:=hrep W
  exact this
 ·rw[ht,z13,zhy]
  exact z7h [49] (List.replicate (2*ps) 48)
 ·have:=z3u (n*n*r) t (len le3) (len le5) (len (by omega)) W hW
  rw[hN] at this;exact this
 ·have h':¬c.num<0:=by simpa using h
  unfold floT;rw[if_neg h',Str.zad]
 ·have h':c.num<0:=by simpa using h
  have hN0:(zD (s*s)).toArray.toList=zD (s*s):=by simp
  by_cases e:s*s=N/\s%c.den=0
  ·left
   refine⟨by rw[ByteArray.toList_eq,e.1];simp,by rw[e.2,zae (by omega)];rfl,λW hW=>?_⟩;have:=z6j 0 ((s/c.den:Nat):Int) (by rw[show(0:Int)=((0:Nat):Int) from rfl];exact dlen _ (by omega)) (dlen _ (by rw[Int.natAbs_natCast];omega)) (dlen _ (hneg _ (by omega))) W hW;rw[z48,Str.zad] at this;unfold floT;rw[if_pos h',if_pos e,Nat.add_zero,<-Int.zero_sub];exact this
  ·right
   refine⟨?_,zD (s/c.den+1),λW hW=>?_,λW hW=>?_⟩
   ·by_cases e1:s*s=N
    ·right
     have e2:s%c.den≠0:=λk=>e ⟨e1,k⟩;rw[beq_eq_false_iff_ne,<-z48,<-Str.zad];exact λk=>e2 (by have:=zdo k;omega)
    ·left
     rw[ByteArray.toList_eq,beq_eq_false_iff_ne,hN0,<-Str.zad,<-Str.zad];exact λk=>e1 (by have:=zdo k;omega)
   ·have:=zva ((s/c.den:Nat):Int) 1 (dlen _ (by rw[Int.natAbs_natCast];omega)) (dlen _ (by show(1:Nat)<=_;omega)) (dlen _ (hpos _ (by omega))) W hW
    rw[z49,show((s/c.den:Nat):Int)+1=((s/c.den+1:Nat):Int) by omega,Str.zad,Str.zad] at this;exact this
   ·have:=z6j 0 ((s/c.den+1:Nat):Int) (by rw[show(0:Int)=((0:Nat):Int) from rfl];exact dlen _ (by omega)) (dlen _ (by rw[Int.natAbs_natCast];omega)) (dlen _ (hneg _ (by omega))) W hW
    rw[z48,Str.zad] at this;unfold floT;rw[if_pos h',if_neg e,<-Int.zero_sub];exact this
def zap (n k:Nat) (z:Int):Int:=if 0<z then 1 else if z+n<0\/(z+n=0/\k=2) then-1 else 0
def sgnP (n:Nat) (Z:Nat->Int):Int:=if zap n 0 (Z 0)≠0 then zap n 0 (Z 0) else if zap n 1 (Z 1)≠0 then zap n 1 (Z 1) else zap n 2 (Z 2)
theorem zhp {n:Nat} {Z:Nat->Int}:∀{k:Nat},k<3->(∀j,j<k->zap n j (Z j)=0)->zap n k (Z k)≠0->sgnP n Z=zap n k (Z k)
 |0,_,_,h=>by unfold sgnP;rw[if_pos h]
 |1,_,h0,h=>by unfold sgnP;rw[if_neg (by simp[h0 0 (by omega)]),if_pos h]
 |2,_,h0,_=>by unfold sgnP;rw[if_neg (by simp[h0 0 (by omega)]),if_neg (by simp[h0 1 (by omega)])]
theorem znr {n:Nat} {Z:Nat->Int} (h:∀j,j<3->zap n j (Z j)=0):sgnP n Z=0:=by
 unfold sgnP;rw[if_neg (by simp[h 0 (by omega)]),if_neg (by simp[h 1 (by omega)]),h 2 (by omega)]
def errP (s:Int):Int:=if s=0 then 4 else 0
theorem zj5 (p:Option Addr) (cap n:Nat) (h0:0<n) (hn:n<=100) (X Y:Nat->List UInt8) (F Z:Nat->Nat->Int) (hZ0:Hid (∀k,Z k 0=0))
 (FL:Hid (∀k i,k<3->i<n->qK 123 #[.agg #[St (X i),St (Y i)],.int .i64 (plN k:Int)] (St (zE (F k i)))))
 (AD:Hid (∀k i,k<3->i<n->qK 44 #[St (zE (Z k i)),St (zE (F k i))] (.tuple #[St (zE (Z k (i+1))),.int .i64 0])))
 (A1:Hid (∀k j,k<3->j<n->qK 44 #[St (zE (Z k n+(j:Int))),.string ⟨#[49]⟩] (.tuple #[St (zE (Z k n+((j+1:Nat):Int))),.int .i64 0])))
 (CM:Hid (∀k j,k<3->j<=n->qK 70 #[St (zE (Z k n+(j:Int))),.string ⟨#[48]⟩] (.tuple #[.int .i64 (cmpZ (Z k n+(j:Int)) 0),.int .i64 0])))
 (w:zA) (HW:Hid (Wd w)) (HP:Hid (Spw w))
 (HT:Hid (∀i,i<n->∃b off,p=some ⟨b,off,none⟩/\b<w.heap.size/\w.cell? ⟨b,off+i*2,none⟩=some (St (X i))/\w.cell? ⟨b,off+i*2+1,none⟩=some (St (Y i)))):
 qJ 53 #[.slice p n cap] w (.tuple #[.int .i64 (sgnP n λk=>Z k n),.int .i64 (errP (sgnP n λk=>Z k n))]):=by
 obtain⟨tt,fz,hblk⟩:=HP.out.block;have hz:((n:Int)==0)=false:=by rw[beq_eq_false_iff_ne];omega
 have D0:=hid (zM w.heap.size w);go_enter Tryz.func53,Tryz.ntmps53;go_wp2_with (refine wpList_load_row rfl 170 (.global 0) rfl 0 rfl tt spV fz (.array 3 3) hblk (by kernel_rfl) rfl (by kernel_rfl) ?_);go_loopw [17] (λi wr=>∃(k:Nat),k<=3/\i=.int .i64 (k:Int)/\Hid (∀j,j<k->zap n j (Z j n)=0)/\Hid (qL w wr))
  (λi _=>3-(zL i).toNat)
 case atStart=>exact⟨0,by omega,rfl,hid (λj h=>by omega),D0⟩
 case round=>
  clear D0 hblk;obtain⟨k,hk,rfl,HU,DK⟩:=hrel;by_cases hlk:k<3
  ·have hx:=λw=>z8x k hlk w
   have HFL:=hid (λi=>FL.out k i hlk);have HAD:=hid (λi=>AD.out k i hlk);have HA1:=hid (λi=>A1.out k i hlk);have HCM:=hid (λj=>CM.out k j hlk);have hS:Value.string ⟨#[48]⟩=St (zE (Z k 0)):=by rw[hZ0.out,zb9]
   have hk3:((k:Int)+1==3)=decide (k=2):=by
    by_cases e:k=2
    ·subst e;rfl
    ·rw[decide_eq_false e,beq_eq_false_iff_ne];omega
   have hwk:IntKind.i64.wrap ((k:Int)+1)=(k:Int)+1:=zI _ (by omega);generalize plN k=pl at*
   have HK3:=hid hk3;clear hk3;go_wp21;rw[hS]
   try rw[show decide ((k:Int)<3)=true from decide_eq_true (by omega)]
   clear hS hx;go_loopw [6,23] (λv i wr=>∃(i0:Nat),i0<=n/\i=.int .i64 (i0:Int)/\v=St (zE (Z k i0))/\Hid (qL w wr))
    (λ_ i _=>n-(zL i).toNat)
   case atStart=>exact⟨0,zR _,rfl,rfl,DK⟩
   case round=>
    clear DK;obtain⟨i0,hi0,rfl,rfl,D1⟩:=hrel;by_cases hlt:i0<n
    ·obtain⟨b,off,rfl,hb,c0,c1⟩:=HT.out i0 hlt
     have t0:wr.cell? ⟨b,off+i0*2,none⟩=some (St (X i0)):=by rw[D1.out.cell (p:=⟨b,off+i0*2,none⟩) hb];exact c0
     have t1:wr.cell? ⟨b,off+i0*2+1,none⟩=some (St (Y i0)):=by rw[D1.out.cell (p:=⟨b,off+i0*2+1,none⟩) hb];exact c1
     have M1:=hid (HFL.out i0 hlt);have M2:=hid (HAD.out i0 hlt);generalize X i0=x at*
     generalize Y i0=y at*
     generalize zE (F k i0)=z at*
     generalize zE (Z k i0)=sk at*
     obtain⟨v1,hv⟩:=zzX (wr.alloc (.cells #[St x,St y] 37));have a1:qL wr v1:=by rw[hv];exact(zM _ wr).alloc (zN _) _
     have A1:v1.heap[wr.heap.size]? =some (.cells #[St x,St y] 37 (0,0)):=by rw[hv];exact zG wr _
     have k0:v1.cell? ⟨wr.heap.size,0,none⟩=some (St x):=by rw[zJ A1];rfl
     have k1:v1.cell? ⟨wr.heap.size,1,none⟩=some (St y):=by rw[zJ A1];rfl
     rw[hv] at k0 k1;have HV1:=hid hv.symm;have E1:=hid (D1.out.trans (a1.mono D1.out.size));clear hv a1 A1 c0 c1 hb;go_wp21;rw[HV1.out];clear t0 t1 k0 k1 HV1;refine zzM (M1.out v1 (HW.out.below E1.out)) λy1 hb1=>?_;have E2:=hid (E1.out.trans (hb1.mono E1.out.size));clear hb1 E1 M1;go_wp21;refine zzM (M2.out y1 (HW.out.below E2.out)) λy2 hb1=>?_;have E3:=hid (E2.out.trans (hb1.mono E2.out.size));clear hb1 E2 M2;go_wp21;go_roundw
     case rel=>exact⟨i0+1,by omega,by go_num,rfl,E3⟩
     case measure=>simp[zL];omega
    ·have hkn:i0=n:=by omega
     subst hkn;have hC0:=HCM.out 0 (zR _);rw[show Z k i0+((0:Nat):Int)=Z k i0 by omega] at hC0;have HC0:=hid hC0;clear hC0;obtain⟨T,hT⟩:=zzX ( λ(j:Nat)=>zE (Z k i0+(j:Int)):Nat->List UInt8);have hTn:St (zE (Z k i0))=St (T 0):=by rw[hT];show St (zE (Z k i0))=St (zE (Z k i0+((0:Nat):Int)));rw[show Z k i0+((0:Nat):Int)=Z k i0 by omega]
     have HTN:=hid hTn;clear hTn;have HB1:Hid (∀j,j<i0->qK 44 #[St (T j),.string ⟨#[49]⟩] (.tuple #[St (T (j+1)),.int .i64 0])):=hid (by rw[hT];exact HA1.out);have HB2:Hid (qK 70 #[St (T i0),.string ⟨#[48]⟩] (.tuple #[.int .i64 (cmpZ (Z k i0+(i0:Int)) 0),.int .i64 0])):=hid (by rw[hT];exact HCM.out i0 (zN _));clear HFL HAD HA1 HCM hT;by_cases hp:0<Z k i0
     ·have hd:decide (0<cmpZ (Z k i0) 0)=true:=by unfold cmpZ;rw[if_neg (by omega),if_pos (by omega)];rfl
      have hc1:cmpZ (Z k i0) 0=1:=by unfold cmpZ;rw[if_neg (by omega),if_pos (by omega)]
      have hs1:zap i0 k (Z k i0)=1:=by unfold zap;rw[if_pos hp]
      have hres:(sgnP i0 λk=>Z k i0)=1:=by rw[zhp hlk HU.out (by show zap i0 k (Z k i0)≠0;rw[hs1];decide)];exact hs1
      have HRES:=hid hres;rw[hc1] at HC0;generalize zE (Z k i0)=zs at*
      clear hp hd hc1 hs1 hres;go_wp21;refine zzM (HC0.out wr (HW.out.below D1.out)) λy1 hb1=>?_;have E1:=hid (D1.out.trans (hb1.mono D1.out.size));clear hb1 HC0;go_wp21;go_ret2;exact⟨by rw[HRES.out];rfl,E1.out⟩
     ·have hd:decide (0<cmpZ (Z k i0) 0)=false:=by
       unfold cmpZ;by_cases h2:Z k i0<0
       ·rw[if_pos h2];rfl
       ·rw[if_neg h2,if_neg (by omega)];rfl
      have HNP:=hid hp;clear hp;obtain⟨c,hc⟩:=zzX (cmpZ (Z k i0) 0);rw[<-hc] at hd HC0;clear hc;go_wp21;refine zzM (HC0.out wr (HW.out.below D1.out)) λy1 hb1=>?_;have E1:=hid (D1.out.trans (hb1.mono D1.out.size));clear hb1 HC0;go_wp21;rw[HTN.out];clear hd;go_loopw [6,45] (λv i wr=>∃(j:Nat),j<=i0/\i=.int .i64 (j:Int)/\v=St (T j)/\Hid (qL w wr))
       (λ_ i _=>i0-(zL i).toNat)
      case atStart=>exact⟨0,zR _,rfl,rfl,E1⟩
      case round=>
       clear E1;obtain⟨j,hj,rfl,rfl,D2⟩:=hrel;by_cases hlt:j<i0
       ·have M2:=hid (HB1.out j hlt)
        go_wp21;refine zzM (M2.out _ (HW.out.below D2.out)) λy2 hb1=>?_;have E3:=hid (D2.out.trans (hb1.mono D2.out.size));clear hb1 M2;go_wp21;go_roundw
        case rel=>exact⟨j+1,by omega,by go_num,rfl,E3⟩
        case measure=>simp[zL];omega
       ·have hji:j=i0:=by omega
        subst hji;have HC1:=HB2;clear HB2 HB1 HTN;obtain⟨z,hz⟩:=zzX (Z k j+(j:Int));rw[<-hz] at HC1;have HZ:=hid hz;clear hz;by_cases hneg:z<0
        ·have hd:decide (cmpZ z 0<0)=true:=by unfold cmpZ;rw[if_pos hneg];rfl
         have hs1:zap j k (Z k j)= -1:=by unfold zap;rw[if_neg (by have:=HNP.out;omega),if_pos (.inl (by rw[<-HZ.out];exact hneg))]
         have hres:(sgnP j λk=>Z k j)= -1:=by rw[zhp hlk HU.out (by show zap j k (Z k j)≠0;rw[hs1];decide)];exact hs1
         have HRES:=hid hres;generalize cmpZ z 0=c at*
         clear hs1 hres hneg;go_wp21;refine zzM (HC1.out _ (HW.out.below D2.out)) λy2 hb1=>?_;have E3:=hid (D2.out.trans (hb1.mono D2.out.size));clear hb1 HC1;go_wp21;go_ret2;exact⟨by rw[HRES.out];rfl,E3.out⟩
        ·have hd:decide (cmpZ z 0<0)=false:=by
          unfold cmpZ;rw[if_neg hneg];split<;>rfl
         by_cases hl:z=0/\k=2
         ·have hd2:(cmpZ z 0==0)=true:=by rw[hl.1];rfl
          have hd3:((k:Int)+1==3)=true:=by rw[HK3.out,decide_eq_true hl.2]
          have hs1:zap j k (Z k j)= -1:=by unfold zap;rw[if_neg (by have:=HNP.out;omega),if_pos (.inr ⟨by rw[<-HZ.out];exact hl.1,hl.2⟩)]
          have hres:(sgnP j λk=>Z k j)= -1:=by rw[zhp hlk HU.out (by show zap j k (Z k j)≠0;rw[hs1];decide)];exact hs1
          have HRES:=hid hres;generalize cmpZ z 0=c at*
          clear hs1 hres hneg hl;go_wp21;refine zzM (HC1.out _ (HW.out.below D2.out)) λy2 hb1=>?_;have E3:=hid (D2.out.trans (hb1.mono D2.out.size));clear hb1 HC1;go_wp21;go_ret2;exact⟨by rw[HRES.out];rfl,E3.out⟩
         ·have hs1:zap j k (Z k j)=0:=by unfold zap;rw[if_neg (by have:=HNP.out;omega),if_neg (by rw[<-HZ.out];omega)]
          have HS1:=hid hs1;have hnx:Hid (∀i,i<k+1->zap j i (Z i j)=0):=hid λi hi=>by
           by_cases e:i=k
           ·rw[e];exact HS1.out
           ·exact HU.out i (by omega)
          have hcs:(cmpZ z 0==0)=false\/((cmpZ z 0==0)=true/\((k:Int)+1==3)=false):=by
           by_cases e:z=0
           ·right
            exact⟨by rw[e];rfl,by rw[HK3.out,decide_eq_false (λh=>hl ⟨e,h⟩)]⟩
           ·left
            unfold cmpZ;rw[if_neg hneg,if_pos (by omega)];rfl
          generalize cmpZ z 0=c at*
          clear hs1 hneg hl;rcases hcs with hc|⟨hc,hc3⟩
          ·go_wp21
           refine zzM (HC1.out _ (HW.out.below D2.out)) λy2 hb1=>?_;have E3:=hid (D2.out.trans (hb1.mono D2.out.size));clear hb1 HC1;go_wp21;go_roundw
           case rel=>exact⟨k+1,by omega,by go_num,hnx,E3⟩
           case measure=>simp[zL];omega
          ·go_wp21
           refine zzM (HC1.out _ (HW.out.below D2.out)) λy2 hb1=>?_;have E3:=hid (D2.out.trans (hb1.mono D2.out.size));clear hb1 HC1;go_wp21;go_roundw
           case rel=>exact⟨k+1,by omega,by go_num,hnx,E3⟩
           case measure=>simp[zL];omega
  ·have hk3:k=3:=by omega
   subst hk3;have HRES:=hid (znr (Z:=λk=>Z k n) HU.out);go_wp21;go_ret2;exact⟨by rw[HRES.out];rfl,DK.out⟩
theorem zyl:NrmR 1/\NrmR 2:=⟨⟨by decide,by rw[zae (by omega)];simp,zln.1⟩,⟨by decide,by rw[zae (by omega)];simp,zln.2.1⟩⟩
def exC (b:Rat) (i:Nat):Rat:=if i=0 then 1 else b
def exR (i:Nat):Nat:=if i=0 then 1 else 2
theorem z8j (b:Rat) (hb:b≠0) (sb:sz b 1):SurdR 2 (exC b) exR:=
 ⟨by omega,λi hi=>match i,hi with
   |0,_=>⟨by show(1:Rat)≠0;decide,zb7.2.1.mono (by omega),zyl.1⟩
   |1,_=>⟨hb,sb.mono (by omega),zyl.2⟩,
  λi hi=>match i,hi with|0,_=>by decide,
  λi k h1 h2=>by
   obtain⟨rfl,rfl⟩:i=0/\k=1:=by omega
   show z5c ((2:Nat):Rat) ((1:Nat):Rat)=false;decide+kernel⟩
theorem ybk (b:Rat) (hb:b≠0) (sb:sz b 1) (r:Nat) (hr:NrmR r):SurdR 1 (λ_=>b) (λ_=>r):=
 ⟨by omega,λi hi=>⟨hb,sb.mono (by omega),hr⟩,λi hi=>by omega,λi k h1 h2=>by omega⟩
theorem ycq (p1 p2:Option Addr) (c1 c2:Nat) (h1:2<=c1) (h2:2<=c2) (w:zA) (HW:Hid (∀W,qL w W->Wd W)) (HP:Hid (∀W,qL w W->Pw W))
 (T1:Hid (∀i,i<2->∃b off,p1=some ⟨b,off,none⟩/\b<w.heap.size/\w.cell? ⟨b,off+i*2,none⟩=some (St (numS (exC 1 i)))/\w.cell? ⟨b,off+i*2+1,none⟩=some (St (numS (exR i:Rat)))))
 (T2:Hid (∀i,i<2->∃b off,p2=some ⟨b,off,none⟩/\b<w.heap.size/\w.cell? ⟨b,off+i*2,none⟩=some (St (numS (exC (-1) i)))/\w.cell? ⟨b,off+i*2+1,none⟩=some (St (numS (exR i:Rat))))):
 zC zF 59 #[.slice p1 2 c1,.slice p2 2 c2] w λe w'=>∃q c,e=.returned (.tuple #[.slice q 1 c,.int .i64 0])/\zB w.heap.size w w'/\w'.ownsRow w.heap.size 37 2 (.slice q 1 c) 1 (zbj [(numS (-1),numS 1)]):=by
 have row:∀(p:Option Addr) (b:Rat) (W:zA),(∀i,i<2->∃b' off,p=some ⟨b',off,none⟩/\b'<w.heap.size/\w.cell? ⟨b',off+i*2,none⟩=some (St (numS (exC b i)))/\w.cell? ⟨b',off+i*2+1,none⟩=some (St (numS (exR i:Rat))))->qL w W->RowTm p 2 (λi=>⟨(numS (exC b i)).toArray⟩) (λi=>⟨(zD (exR i)).toArray⟩) W:=λp b W h hB i hi=>by
  obtain⟨b',off,e,hb,c0,c1⟩:=h i hi;refine⟨b',off,e,zai hB c0,?_⟩;have:=zai hB c1;rw[zhe] at this;exact this
 have hb:=z6g (.slice p1 2 c1) (.slice p2 2 c2) (λW=>qL w W) (λW W' h h'=>h.trans (h'.mono h.size))
  (hid λW h=>zos p1 c1 2 (exC 1) exR (z8j 1 (by decide) zb7.2.1) h1 W (HW.out W h) (HP.out W h) (row p1 1 W T1.out h))
  (hid λW h=>zos p2 c2 2 (exC (-1)) exR (z8j (-1) (by decide) zb7.2.2.2.2.1) h2 W (HW.out W h) (HP.out W h) (row p2 (-1) W T2.out h))
  w (zM _ _)
 have hpr:zi2 (λ_ j=>numS (exC (-1) j)) (λi j=>numS ((exR i:Rat)*(exR j:Rat))) 2 2=[(numS 1,numS 1),(numS (-1),numS 2),(numS 1,numS 2),(numS (-1),numS 4)]:=by
  simp only[zi2,zrm,List.nil_append,List.cons_append];rw[show exC (-1) 0=1 from rfl,show exC (-1) 1= -1 from rfl,show((exR 0:Nat):Rat)*((exR 0:Nat):Rat)=1 by decide+kernel,show((exR 0:Nat):Rat)*((exR 1:Nat):Rat)=2 by decide+kernel,show((exR 1:Nat):Rat)*((exR 0:Nat):Rat)=2 by decide+kernel,show((exR 1:Nat):Rat)*((exR 1:Nat):Rat)=4 by decide+kernel]
 have szC:∀b:Rat,sz b 1->∀i,sz (exC b i) 1:=λb hb i=>by
  unfold exC;split
  ·exact zb7.2.1
  ·exact hb
 have szR:∀i,sz (exR i:Rat) 1:=λi=>by
  unfold exR;split
  ·exact zb7.2.1
  ·exact zb7.2.2.1
 refine z7c p1 p2 c1 c2 2 2 1 (λi=>numS (exC 1 i)) (λi=>numS (exR i:Rat)) (λi=>numS (exC (-1) i)) (λi=>numS (exR i:Rat)) (λ_ j=>numS (exC (-1) j)) (λi j=>numS ((exR i:Rat)*(exR j:Rat))) [(numS (-1),numS 1)] (by omega) (by omega) w HW (hid hb)
  (hid λi j hi hj W hW=>zon _ _ _ (szC 1 zb7.2.1 i) (szC (-1) zb7.2.2.2.2.1 j) (by unfold exC;match i,hi with|0,_|1,_=>simp) W hW)
  (hid λi j hi hj W hW=>zon _ _ _ (szR i) (szR j) rfl W hW) T1 T2 (hid λW q c hB hO=>?_)
 rw[hpr] at hO⊢;obtain⟨g,c',e,hg,hx⟩:=zye hO (by simp);have hs:=hB.size;have hl:=(hO.lt g (by rw[e];rfl)).2;refine ycp q c W (hid λW' h=>HW.out _ (hB.trans (h.mono hs))) (hid λW' h=>HP.out _ (hB.trans (h.mono hs))) (hid λi hi=>?_);injection e with e1 _ _;refine⟨g,0,e1,hl,?_,?_⟩
 ·rw[Nat.zero_add]
  match i,hi with
  |0,_=>exact hx 0 _ rfl
  |1,_=>exact hx 2 _ rfl
  |2,_=>exact hx 4 _ rfl
  |3,_=>exact hx 6 _ rfl
 ·rw[Nat.zero_add]
  match i,hi with
  |0,_=>exact hx 1 _ rfl
  |1,_=>exact hx 3 _ rfl
  |2,_=>exact hx 5 _ rfl
  |3,_=>exact hx 7 _ rfl
theorem z5d (a u q f r:List UInt8)
 (D:Hid (qK 93 #[St a,St u] (.tuple #[St q,.int .i64 0])))
 (F:Hid (qK 257 #[St q] (.tuple #[St f,.int .i64 0])))
 (M:Hid (qK 9 #[St f,St u] (.tuple #[St r,.int .i64 0])))
 (w:zA) (HW:Hid (Wd w)):
 qJ 208 #[St a,St u] w (.tuple #[St r,.int .i64 0]):=by
 go_enter Tryz.func208,Tryz.ntmps208;go_wp21;refine zzM (D.out w HW.out) λw1 hb1=>?_;have B1:=hid hb1;clear hb1;go_wp21;refine zzM (F.out w1 (HW.out.below B1.out)) λw2 hb2=>?_;have B2:=hid (B1.out.trans (hb2.mono B1.out.size));clear hb2 B1;go_wp21;refine zzM (M.out w2 (HW.out.below B2.out)) λw3 hb3=>?_;have B3:=hid (B2.out.trans (hb3.mono B2.out.size));clear hb3 B2;go_wp21;go_ret2;exact⟨rfl,B3.out⟩
theorem z7d (r u s2 x:List UInt8)
 (M:Hid (qK 9 #[.string ⟨#[49]⟩,.string ⟨#[49]⟩] (.tuple #[.string ⟨#[49]⟩,.int .i64 0])))
 (M2:Hid (qK 9 #[.string ⟨#[49]⟩,St r] (.tuple #[St s2,.int .i64 0])))
 (F:Hid (qK 256 #[St s2,St u] (.tuple #[St x,.int .i64 0])))
 (w:zA) (HW:Hid (Wd w)):
 qJ 207 #[.agg #[.string ⟨#[49]⟩,St r],St u] w (.tuple #[St x,.int .i64 0]):=by
 obtain⟨v1,hv⟩:=zzX (w.alloc (.cells #[.string ⟨#[49]⟩,St r] 37));have a1:qL w v1:=by rw[hv];exact(zM _ w).alloc (zN _) _
 have A1:v1.heap[w.heap.size]? =some (.cells #[.string ⟨#[49]⟩,St r] 37 (0,0)):=by rw[hv];exact zG w _
 have k0:v1.cell? ⟨w.heap.size,0,none⟩=some (.string ⟨#[49]⟩):=by rw[zJ A1];rfl
 rw[hv] at k0;have HV1:=hid hv.symm;have E1:=hid a1;have B1:=hid A1;clear hv a1 A1;go_enter Tryz.func207,Tryz.ntmps207;go_wp21;rw[HV1.out];clear k0 HV1;refine zzM (M.out v1 (HW.out.below E1.out)) λy1 hb1=>?_;have E2:=hid (E1.out.trans (hb1.mono E1.out.size));have B2:=hid (zac hb1 _ _ _ _ B1.out);clear hb1 E1 B1;have k1:y1.cell? ⟨w.heap.size,1,none⟩=some (St r):=by rw[zJ B2.out];rfl
 go_wp21;refine zzM (M2.out y1 (HW.out.below E2.out)) λy2 hb1=>?_;have E3:=hid (E2.out.trans (hb1.mono E2.out.size));have B3:=hid (zac hb1 _ _ _ _ B2.out);clear hb1 k1 E2 B2;go_wp21;refine zzM (F.out y2 (HW.out.below E3.out)) λy3 hb1=>?_;have E4:=hid (E3.out.trans (hb1.mono E3.out.size));have B4:=hid (zac hb1 _ _ _ _ B3.out);clear hb1 E3 B3;have k0:y3.cell? ⟨w.heap.size,0,none⟩=some (.string ⟨#[49]⟩):=by rw[zJ B4.out];rfl
 go_wp21;go_ret2;exact⟨rfl,E4.out⟩
theorem z7i (g cap:Nat) (c r u fine x s low z:List UInt8)
 (M:Hid (qK 9 #[St u,.string ⟨#[49,47,49,48,48,48]⟩] (.tuple #[St fine,.int .i64 0])))
 (T:Hid (qK 207 #[.agg #[St c,St r],St fine] (.tuple #[St x,.int .i64 0])))
 (A:Hid (qK 10 #[.string ⟨#[48]⟩,St x] (.tuple #[St s,.int .i64 0])))
 (F:Hid (qK 208 #[St s,St u] (.tuple #[St low,.int .i64 0])))
 (S:Hid (qK 8 #[St low,St u] (.tuple #[St z,.int .i64 0])))
 (w:zA) (HW:Hid (Wd w)) (HC:Hid (w.cell? ⟨g,0,none⟩=some (St c)/\w.cell? ⟨g,1,none⟩=some (St r))):
 qJ 131 #[.slice (some ⟨g,0,none⟩) 1 cap,St u] w (.tuple #[St z,.int .i64 0]):=by
 go_enter Tryz.func131,Tryz.ntmps131;go_wp21;refine zzM (M.out w HW.out) λw1 hb1=>?_;have E1:=hid hb1;have c0:=zai hb1 HC.out.1;have c1:=zai hb1 HC.out.2;clear hb1;obtain⟨v1,hv⟩:=zzX (w1.alloc (.cells #[St c,St r] 37));have a1:qL w1 v1:=by rw[hv];exact(zM _ w1).alloc (zN _) _
 have A1:v1.heap[w1.heap.size]? =some (.cells #[St c,St r] 37 (0,0)):=by rw[hv];exact zG w1 _
 have k0:v1.cell? ⟨w1.heap.size,0,none⟩=some (St c):=by rw[zJ A1];rfl
 have k1:v1.cell? ⟨w1.heap.size,1,none⟩=some (St r):=by rw[zJ A1];rfl
 rw[hv] at k0 k1;have HV1:=hid hv.symm;have E2:=hid (E1.out.trans (a1.mono E1.out.size));clear hv a1 A1;go_wp21;refine wp_loop_rounds 2 ?_;rw[rounds_succ];go_wp21;rw[HV1.out];clear k0 k1 HV1 c0 c1;refine zzM (T.out v1 (HW.out.below E2.out)) λw2 hb2=>?_;have E3:=hid (E2.out.trans (hb2.mono E2.out.size));clear hb2 E2;go_wp21;refine zzM (A.out w2 (HW.out.below E3.out)) λw3 hb3=>?_;have E4:=hid (E3.out.trans (hb3.mono E3.out.size));clear hb3 E3;go_wp21;rw[rounds_succ];go_wp21;refine zzM (F.out w3 (HW.out.below E4.out)) λw4 hb4=>?_;have E5:=hid (E4.out.trans (hb4.mono E4.out.size));clear hb4 E4;go_wp21;refine zzM (S.out w4 (HW.out.below E5.out)) λw5 hb5=>?_;have E6:=hid (E5.out.trans (hb5.mono E5.out.size));clear hb5 E5;go_wp21;go_ret2;exact⟨rfl,E6.out⟩
theorem yac (g cap:Nat) (u l0 l1 l2:List UInt8) (C:zA->Prop) (hC:∀W W',C W->qL W W'->C W') (hW:∀W,C W->Wd W)
 (N:Hid (∀W:zA,C W->qJ 131 #[.slice (some ⟨g,0,none⟩) 1 cap,St u] W (.tuple #[St l0,.int .i64 0])))
 (O0:Hid (∀W:zA,C W->qJ 74 #[.slice (some ⟨g,0,none⟩) 1 cap,St l0] W (.tuple #[.int .i64 1,.int .i64 0])))
 (A1:Hid (qK 10 #[St l0,St u] (.tuple #[St l1,.int .i64 0])))
 (O1:Hid (∀W:zA,C W->qJ 74 #[.slice (some ⟨g,0,none⟩) 1 cap,St l1] W (.tuple #[.int .i64 1,.int .i64 0])))
 (A2:Hid (qK 10 #[St l1,St u] (.tuple #[St l2,.int .i64 0])))
 (O2:Hid (∀W:zA,C W->qJ 74 #[.slice (some ⟨g,0,none⟩) 1 cap,St l2] W (.tuple #[.int .i64 (-1),.int .i64 0])))
 (w:zA) (HC0:Hid (C w)):
 qJ 62 #[.slice (some ⟨g,0,none⟩) 1 cap,St u] w (.tuple #[.agg #[St l1,St l2],.int .i64 0]):=by
 obtain⟨v1,hv⟩:=zzX (w.alloc (.cells #[St [],St []] 43));have a1:qL w v1:=by rw[hv];exact(zM _ w).alloc (zN _) _
 have R1:v1.heap[w.heap.size]? =some (.cells #[St [],St []] 43 (0,0)):=by rw[hv];exact zG w _
 have HV1:=hid hv.symm;have HC:=hid (λW (h:qL w W)=>hC _ _ HC0.out h);have HW:=hid (λW (h:qL w W)=>hW _ (hC _ _ HC0.out h));have E1:=hid a1;have B1:=hid R1;clear hv a1 R1 hC hW HC0;go_enter Tryz.func62,Tryz.ntmps62;go_wp21;have h9:=HV1.out;rw[show w.alloc (.cells #[.string ⟨#[]⟩,.string ⟨#[]⟩] 43)=v1 from h9];clear h9 HV1;refine zzM (N.out v1 (HC.out _ E1.out)) λw1 hb1=>?_;have E2:=hid (E1.out.trans (hb1.mono E1.out.size));have B2:=hid (zac hb1 _ _ _ _ B1.out);clear hb1 E1 B1;go_wp21;refine zzM (O0.out w1 (HC.out _ E2.out)) λw2 hb2=>?_;have E3:=hid (E2.out.trans (hb2.mono E2.out.size));have B3:=hid (zac hb2 _ _ _ _ B2.out);clear hb2 E2 B2;go_wp21;refine wp_loop_rounds 2 ?_;rw[rounds_succ];go_wp21;refine zzM (A1.out w2 (HW.out _ E3.out)) λw3 hb3=>?_;have E4:=hid (E3.out.trans (hb3.mono E3.out.size));have B4:=hid (zac hb3 _ _ _ _ B3.out);clear hb3 E3 B3;go_wp21;refine zzM (O1.out w3 (HC.out _ E4.out)) λw4 hb4=>?_;have E5:=hid (E4.out.trans (hb4.mono E4.out.size));have B5:=hid (zac hb4 _ _ _ _ B4.out);clear hb4 E4 B4;go_wp21;rw[rounds_succ];go_wp21;refine zzM (A2.out w4 (HW.out _ E5.out)) λw5 hb5=>?_;have E6:=hid (E5.out.trans (hb5.mono E5.out.size));have B6:=hid (zac hb5 _ _ _ _ B5.out);clear hb5 E5 B5;go_wp21;refine zzM (O2.out w5 (HC.out _ E6.out)) λw6 hb6=>?_;have E7:=hid (E6.out.trans (hb6.mono E6.out.size));have B7:=hid (zac hb6 _ _ _ _ B6.out);clear hb6 E6 B6;have c0:w6.cell? ⟨w.heap.size,0,none⟩=some (St []):=by rw[zJ B7.out];rfl
 have c1:w6.cell? ⟨w.heap.size,1,none⟩=some (St []):=by rw[zJ B7.out];rfl
 have f0:=Go.Joins.unfrozen_of_block B7.out 0;have f1:=Go.Joins.unfrozen_of_block B7.out 1;go_wp21;have hB7:=E7.out;refine bodyPost_ret (v:=.tuple #[.agg #[St l1,St l2],.int .i64 0]) (by simp[results,Tryz.results62,go_sem,c0,c1]) rfl ⟨rfl,?_⟩
 repeat(first|exact hB7|refine Below.setCell ?_ (by simp) _)
theorem ybl (w:zA):qJ 63 #[.int .i64 1] w (.string ⟨#[49,47,49,48]⟩):=by
 have hr:=Tryz.strings_Repeat ⟨#[48]⟩ 1 w (by omega) (by show 1*1<=_;omega);rw[show(⟨(Lib.repeatL (⟨#[48]⟩:ByteArray).data.toList 1).toArray⟩:ByteArray)=⟨#[48]⟩ by decide] at hr;have HR:=hid hr;clear hr;go_enter Tryz.func63,Tryz.ntmps63;go_wp21;refine zzM HR.out λw1 hb=>?_;have B:=hid hb;clear hb;go_wp21;go_ret;exact⟨congrArg (λs=>Ending.returned (.string s)) (show(⟨#[49,47,49]⟩:ByteArray)++⟨#[48]⟩=⟨#[49,47,49,48]⟩ by decide),B.out⟩
theorem z9e (g cap:Nat) (l1 l2:List UInt8) (C:zA->Prop) (hC:∀W W',C W->qL W W'->C W')
 (K:Hid (∀W:zA,C W->qJ 61 #[.slice (some ⟨g,0,none⟩) 1 cap] W (.int .i64 0)))
 (O:Hid (∀W:zA,C W->qJ 62 #[.slice (some ⟨g,0,none⟩) 1 cap,.string ⟨#[49,47,49,48]⟩] W (.tuple #[.agg #[St l1,St l2],.int .i64 0])))
 (w:zA) (HC0:Hid (C w)):
 qJ 15 #[.slice (some ⟨g,0,none⟩) 1 cap,.int .i64 1] w (.tuple #[.agg #[St l1,St l2],.int .i64 0]):=by
 obtain⟨v1,hv⟩:=zzX (w.alloc (.cells #[St [],St []] 43));have a1:qL w v1:=by rw[hv];exact(zM _ w).alloc (zN _) _
 have R1:v1.heap[w.heap.size]? =some (.cells #[St [],St []] 43 (0,0)):=by rw[hv];exact zG w _
 have HV1:=hid hv.symm;have HC:=hid (λW (h:qL w W)=>hC _ _ HC0.out h);have E1:=hid a1;have B1:=hid R1;clear hv a1 R1 hC HC0;go_enter Tryz.func15,Tryz.ntmps15;go_wp21;have h9:=HV1.out;rw[show w.alloc (.cells #[.string ⟨#[]⟩,.string ⟨#[]⟩] 43)=v1 from h9];clear h9 HV1;refine zzM (K.out v1 (HC.out _ E1.out)) λw1 hb1=>?_;have E2:=hid (E1.out.trans (hb1.mono E1.out.size));have B2:=hid (zac hb1 _ _ _ _ B1.out);clear hb1 E1 B1;go_wp21;refine zzM (ybl w1) λw2 hb2=>?_;have E3:=hid (E2.out.trans (hb2.mono E2.out.size));have B3:=hid (zac hb2 _ _ _ _ B2.out);clear hb2 E2 B2;go_wp21;refine zzM (O.out w2 (HC.out _ E3.out)) λw6 hb6=>?_;have E7:=hid (E3.out.trans (hb6.mono E3.out.size));have B7:=hid (zac hb6 _ _ _ _ B3.out);clear hb6 E3 B3;have c0:w6.cell? ⟨w.heap.size,0,none⟩=some (St []):=by rw[zJ B7.out];rfl
 have c1:w6.cell? ⟨w.heap.size,1,none⟩=some (St []):=by rw[zJ B7.out];rfl
 have f0:=Go.Joins.unfrozen_of_block B7.out 0;have f1:=Go.Joins.unfrozen_of_block B7.out 1;go_wp21;have hB7:=E7.out;refine bodyPost_ret (v:=.tuple #[.agg #[St l1,St l2],.int .i64 0]) (by simp[results,Tryz.results15,go_sem,c0,c1]) rfl ⟨rfl,?_⟩
 repeat(first|exact hB7|refine Below.setCell ?_ (by simp) _)
theorem zjn (v1 v2:Value) (sg e2:Int) (R:Value->zA->Prop) (E F:Prop) (w:zA)
 (S:Hid (zC zF 52 #[v1,v2] w λe w'=>∃q n c r,e=.returned (.tuple #[.slice q n c,.int .i64 r])/\zB w.heap.size w w'/\((r=0/\R (.slice q n c) w'/\E)\/(r=4/\F))))
 (G:Hid (∀(W:zA) (u:Value),E->qL w W->R u W->qJ 53 #[u] W (.tuple #[.int .i64 sg,.int .i64 e2]))):
 zC zF 12 #[v1,v2] w λe w'=>∃m r,e=.returned (.tuple #[.int .i64 m,.int .i64 r])/\zB w.heap.size w w'/\((r=4/\m=0/\F)\/(m=sg/\r=e2/\E)):=by
 go_enter Tryz.func12,Tryz.ntmps12;go_wp21;refine S.out.mono ?_;rintro e w1 ⟨q,n,c,r,rfl,hb1,hr⟩;have B1:=hid hb1;rcases hr with⟨rfl,hr,hE⟩|⟨rfl,hF⟩
 ·have HG:=hid (G.out w1 _ hE hb1 hr)
  have HE:=hid hE;clear hb1 hr G S hE;go_wp21;refine zzM HG.out λw2 hb2=>?_;have B2:=hid (B1.out.trans (hb2.mono B1.out.size));clear hb2;go_wp21;go_ret2;exact⟨_,_,rfl,B2.out,.inr ⟨rfl,rfl,HE.out⟩⟩
 ·have HF:=hid hF
  clear hb1 G S hF;go_wp21;go_ret2;exact⟨_,_,rfl,B1.out,.inl ⟨rfl,rfl,HF.out⟩⟩
theorem zzh (v1 v2:Value) (K:Nat) (sg:Int) (R:Option Addr->Nat->zA->Prop) (w:zA)
 (S:Hid (zC zF 52 #[v1,v2] w λe w'=>∃q d,e=.returned (.tuple #[.slice q K d,.int .i64 0])/\zB w.heap.size w w'/\R q d w'))
 (G:Hid (∀(W:zA) (q:Option Addr) (d:Nat),qL w W->R q d W->qJ 53 #[.slice q K d] W (.tuple #[.int .i64 sg,.int .i64 0]))):
 qJ 12 #[v1,v2] w (.tuple #[.int .i64 sg,.int .i64 0]):=
 (zjn v1 v2 sg 0 (λu W=>∃q d,u=.slice q K d/\R q d W) True False w (hid (S.out.mono λe w' ⟨q,d,h1,h2,h3⟩=>⟨q,K,d,0,h1,h2,.inl ⟨rfl,⟨q,d,rfl,h3⟩,trivial⟩⟩)) (hid λW u _ hW ⟨q,d,hu,hr⟩=>by subst hu;exact G.out W q d hW hr)).mono λe w' ⟨m,r,h1,h2,h3⟩=>by
   rcases h3 with⟨_,_,h⟩|⟨rfl,rfl, -⟩
   ·exact h.elim
   ·exact⟨h1,h2⟩
theorem z5k (s:Value) (a:List UInt8) (K:Nat) (sg:Int) (h1: -2<sg) (h2:sg<2) (R:Option Addr->Nat->zA->Prop) (w:zA)
 (M:Hid (∀W:zA,qL w W->W.cell? ⟨w.heap.size,0,none⟩=some (St a)->W.cell? ⟨w.heap.size,1,none⟩=some (.string ⟨#[49]⟩)->zC zF 11 #[.slice (some ⟨w.heap.size,0,none⟩) 1 1] W λe w'=>∃q d,e=.returned (.tuple #[.slice q K d,.int .i64 0])/\zB W.heap.size W w'/\R q d w'))
 (C:Hid (∀(W:zA) (q:Option Addr) (d:Nat),qL w W->R q d W->qJ 12 #[.slice q K d,s] W (.tuple #[.int .i64 sg,.int .i64 0]))):
 qJ 74 #[s,St a] w (.tuple #[.int .i64 (-sg),.int .i64 0]):=by
 obtain⟨v1,hv⟩:=zzX (w.alloc (.cells #[St a,.string ⟨#[49]⟩] 37));have a1:qL w v1:=by rw[hv];exact(zM _ w).alloc (zN _) _
 have A1:v1.heap[w.heap.size]? =some (.cells #[St a,.string ⟨#[49]⟩] 37 (0,0)):=by rw[hv];exact zG w _
 have HM:=hid (M.out v1 a1 (by rw[zJ A1];rfl) (by rw[zJ A1];rfl));have HV1:=hid hv.symm;have E1:=hid a1;have hw64:IntKind.i64.wrap (-sg)= -sg:=zI _ (by omega);clear hv a1 A1 M;go_enter Tryz.func74,Tryz.ntmps74;go_wp21;rw[HV1.out];clear HV1;refine HM.out.mono ?_;rintro e w1 ⟨q,d,rfl,hb1,hr⟩;have hb:=E1.out.trans (hb1.mono E1.out.size);have B1:=hid hb;have HG:=hid (C.out w1 q d hb hr);clear hb1 hr C HM hb E1;go_wp21;refine zzM HG.out λw2 hb2=>?_;have B2:=hid (B1.out.trans (hb2.mono B1.out.size));clear hb2;go_wp21;go_ret2;exact⟨rfl,B2.out⟩
theorem z0o (p1 p2:Option Addr) (n1 n2 c1 c2 N:Nat) (R R2:Option Addr->Nat->zA->Prop) (R3:Value->Int->zA->Prop) (w:zA)
 (B:Hid (qJ 120 #[.slice p1 n1 c1,.slice p2 n2 c2] w (.bool true)))
 (S:Hid (∀W:zA,qL w W->zC zF 121 #[.slice p2 n2 c2,.string ⟨#[45,49]⟩] W λe w'=>∃q d,e=.returned (.tuple #[.slice q n2 d,.int .i64 0])/\zB W.heap.size W w'/\R q d w'))
 (CN:Hid (∀(W:zA) (q:Option Addr) (d b:Nat),qL w W->w.heap.size<=b->(∃W0,qL w W0/\R q d W0/\zB W0.heap.size W0 W)->W.cell? ⟨b,0,none⟩=some (.slice p1 n1 c1)->W.cell? ⟨b,1,none⟩=some (.slice q n2 d)->zC zF 122 #[.slice (some ⟨b,0,none⟩) 2 2] W λe w'=>∃q' d',e=.returned (.slice q' N d')/\zB W.heap.size W w'/\R2 q' d' w'))
 (M:Hid (∀(W:zA) (q:Option Addr) (d:Nat),qL w W->R2 q d W->zC zF 11 #[.slice q N d] W λe w'=>∃q n c r,e=.returned (.tuple #[.slice q n c,.int .i64 r])/\zB W.heap.size W w'/\R3 (.slice q n c) r w')):
 zC zF 52 #[.slice p1 n1 c1,.slice p2 n2 c2] w λe w'=>∃q n c r,e=.returned (.tuple #[.slice q n c,.int .i64 r])/\zB w.heap.size w w'/\R3 (.slice q n c) r w':=by
 go_enter Tryz.func52,Tryz.ntmps52;go_wp21;refine zzM B.out λw1 hb1=>?_;have B1:=hid hb1;have HS:=hid (S.out w1 hb1);clear hb1 B S;go_wp21;refine HS.out.mono ?_;rintro e w2 ⟨q,d,rfl,hb2,hr⟩;have hb:=B1.out.trans (hb2.mono B1.out.size);obtain⟨v1,hv⟩:=zzX (w2.alloc (.cells #[.slice p1 n1 c1,.slice q n2 d] 26));have a1:qL w2 v1:=by rw[hv];exact(zM _ w2).alloc (zN _) _
 have A1:v1.heap[w2.heap.size]? =some (.cells #[.slice p1 n1 c1,.slice q n2 d] 26 (0,0)):=by rw[hv];exact zG w2 _
 have HC:=hid (CN.out v1 q d w2.heap.size (hb.trans (a1.mono hb.size)) hb.size ⟨w2,hb,hr,a1⟩ (by rw[zJ A1];rfl) (by rw[zJ A1];rfl));have HV1:=hid hv.symm;have B2:=hid (hb.trans (a1.mono hb.size));clear hv a1 A1 CN hb hb2 hr HS B1;go_wp21;rw[HV1.out];clear HV1;refine HC.out.mono ?_;rintro e w3 ⟨q2,d2,rfl,hb3,hr3⟩;have hb:=B2.out.trans (hb3.mono B2.out.size);have B3:=hid hb;have HM:=hid (M.out w3 q2 d2 hb hr3);clear hb hb3 hr3 M HC B2;go_wp21;refine HM.out.mono ?_;rintro e w4 ⟨q4,n4,d4,r4,rfl,hb4,hr4⟩;have FE:=hid (⟨B3.out.trans (hb4.mono B3.out.size),hr4⟩:qL w w4/\R3 (.slice q4 n4 d4) r4 w4);clear hb4 hr4 HM B3;go_wp21;go_ret2;exact⟨q4,n4,d4,r4,rfl,FE.out.1,FE.out.2⟩
theorem z5m (p1 p2:Option Addr) (n1 n2 c1 c2 N K:Nat) (R R2 R3:Option Addr->Nat->zA->Prop) (w:zA)
 (B:Hid (qJ 120 #[.slice p1 n1 c1,.slice p2 n2 c2] w (.bool true)))
 (S:Hid (∀W:zA,qL w W->zC zF 121 #[.slice p2 n2 c2,.string ⟨#[45,49]⟩] W λe w'=>∃q d,e=.returned (.tuple #[.slice q n2 d,.int .i64 0])/\zB W.heap.size W w'/\R q d w'))
 (CN:Hid (∀(W:zA) (q:Option Addr) (d b:Nat),qL w W->w.heap.size<=b->(∃W0,qL w W0/\R q d W0/\zB W0.heap.size W0 W)->W.cell? ⟨b,0,none⟩=some (.slice p1 n1 c1)->W.cell? ⟨b,1,none⟩=some (.slice q n2 d)->zC zF 122 #[.slice (some ⟨b,0,none⟩) 2 2] W λe w'=>∃q' d',e=.returned (.slice q' N d')/\zB W.heap.size W w'/\R2 q' d' w'))
 (M:Hid (∀(W:zA) (q:Option Addr) (d:Nat),qL w W->R2 q d W->zC zF 11 #[.slice q N d] W λe w'=>∃q' d',e=.returned (.tuple #[.slice q' K d',.int .i64 0])/\zB W.heap.size W w'/\R3 q' d' w')):
 zC zF 52 #[.slice p1 n1 c1,.slice p2 n2 c2] w λe w'=>∃q d,e=.returned (.tuple #[.slice q K d,.int .i64 0])/\zB w.heap.size w w'/\R3 q d w':=by
 refine(z0o p1 p2 n1 n2 c1 c2 N R R2 (λv r W=>r=0/\∃q d,v=.slice q K d/\R3 q d W) w B S CN (hid λW q d hW hv=>(M.out W q d hW hv).mono λe w' ⟨q',d',h1,h2,h3⟩=>⟨q',K,d',0,h1,h2,rfl,q',d',rfl,h3⟩)).mono λe w' ⟨q,n,c,r,h1,h2,h3,q',d',h4,h5⟩=>?_;subst h3;injection h4 with e1 e2 e3;subst e1;subst e2;subst e3;exact⟨q,c,h1,h2,h5⟩
theorem yag (x u v:List UInt8) (t:ByteArray) (ht:t=⟨(trimPrefix u [45]).toArray⟩) (h1:decide (20<(t.size:Int))=false) (h2:decide (20<(v.length:Int))=false) (w:zA) (HW:Hid (Wd w))
 (PA:Hid (qK 116 #[St x] (.tuple #[St u,St v,.int .i64 0]))):
 qJ 130 #[St x] w (.bool false):=by
 have ht2:∀W,zC zF 139 #[St u,.string ⟨#[45]⟩] W λe w'=>e=.returned (.string t)/\w'=W:=λW=>by
  rw[ht];exact Tryz.strings_TrimPrefix ⟨u.toArray⟩ ⟨#[45]⟩ W
 obtain⟨d,hd⟩:=zzX (⟨v.toArray⟩:ByteArray);have hds:d.size=v.length:=by rw[hd];show v.toArray.size=_;simp
 rw[<-hds] at h2;have HT:=hid ht2;have PA2:Hid (qK 116 #[St x] (.tuple #[St u,.string d,.int .i64 0])):=hid (by rw[hd];exact PA.out);clear ht ht2 hd hds PA;go_enter Tryz.func130,Tryz.ntmps130;go_wp21;refine zzM (PA2.out _ HW.out) λw1 hb1=>?_;have B1:=hid hb1;clear hb1;go_wp21;refine zzM (HT.out w1) λw2 hw2=>?_;have B2:Hid (qL w w2):=hid (by rw[hw2];exact B1.out);clear hw2;go_wp21;go_ret;exact⟨rfl,B2.out⟩
theorem z9k (c r:List UInt8) (L:Hid (qK 130 #[St c] (.bool false))) (w:zA) (HW:Hid (Wd w)):
 qJ 129 #[.agg #[St c,St r]] w (.bool false):=by
 obtain⟨v1,hv⟩:=zzX (w.alloc (.cells #[St c,St r] 37));have a1:qL w v1:=by rw[hv];exact(zM _ w).alloc (zN _) _
 have A1:v1.heap[w.heap.size]? =some (.cells #[St c,St r] 37 (0,0)):=by rw[hv];exact zG w _
 have k0:v1.cell? ⟨w.heap.size,0,none⟩=some (St c):=by rw[zJ A1];rfl
 rw[hv] at k0;have HV1:=hid hv.symm;have E1:=hid a1;clear hv a1 A1;go_enter Tryz.func129,Tryz.ntmps129;go_wp21;rw[HV1.out];clear k0 HV1;refine zzM (L.out v1 (HW.out.below E1.out)) λy1 hb1=>?_;have E2:=hid (E1.out.trans (hb1.mono E1.out.size));clear hb1;go_wp21;go_ret;exact⟨rfl,E2.out⟩
theorem z5e (a ar b br:List UInt8) (n:Int) (CM:Hid (qK 18 #[St ar,St br] (.tuple #[.int .i64 n,.int .i64 0]))) (w:zA) (HW:Hid (Wd w)):
 qJ 51 #[.agg #[St a,St ar],.agg #[St b,St br]] w (.int .i64 n):=by
 obtain⟨v1,hv⟩:=zzX (w.alloc (.cells #[St a,St ar] 37));have a1:qL w v1:=by rw[hv];exact(zM _ w).alloc (zN _) _
 have A1:v1.heap[w.heap.size]? =some (.cells #[St a,St ar] 37 (0,0)):=by rw[hv];exact zG w _
 have s1:v1.heap.size=w.heap.size+1:=by rw[hv];simp
 obtain⟨v2,hv2⟩:=zzX (v1.alloc (.cells #[St b,St br] 37));have a2:qL v1 v2:=by rw[hv2];exact(zM _ v1).alloc (zN _) _
 have A2:v2.heap[w.heap.size+1]? =some (.cells #[St b,St br] 37 (0,0)):=by rw[hv2,<-s1];exact zG v1 _
 have A3:=zac a2 _ _ _ _ A1;have k0:v2.cell? ⟨w.heap.size,1,none⟩=some (St ar):=by rw[zJ A3];rfl
 have k1:v2.cell? ⟨w.heap.size+1,1,none⟩=some (St br):=by rw[zJ A2];rfl
 have E1:=hid (a1.trans (a2.mono a1.size));rw[hv] at hv2;rw[hv2] at k0 k1;have HV:=hid hv2.symm;clear hv hv2 a1 a2 A1 A2 A3 s1;go_enter Tryz.func51,Tryz.ntmps51;go_wp21;rw[HV.out];clear k0 k1 HV;refine zzM (CM.out v2 (HW.out.below E1.out)) λy1 hb1=>?_;have E2:=hid (E1.out.trans (hb1.mono E1.out.size));clear hb1;go_wp21;go_ret;exact⟨rfl,E2.out⟩
theorem z9f (g cap:Nat) (x0 y0 x1 y1:List UInt8) (n:Int) (hn:decide (n<0)=false)
 (CM:Hid (qK 51 #[.agg #[St x1,St y1],.agg #[St x0,St y0]] (.int .i64 n)))
 (w:zA) (HW:Hid (Wd w)) (HC:Hid (w.cell? ⟨g,0,none⟩=some (St x0)/\w.cell? ⟨g,1,none⟩=some (St y0)/\w.cell? ⟨g,2,none⟩=some (St x1)/\w.cell? ⟨g,3,none⟩=some (St y1))):
 zC zF 192 #[.slice (some ⟨g,0,none⟩) 2 cap,.int .i64 0,.int .i64 2,.func (.func 51) #[] #[]] w λe w'=>(∃u,e=.returned u)/\zB w.heap.size w w':=by
 go_enter Tryz.func192,Tryz.ntmps192;go_wp21;refine wp_loop_rounds 2 ?_;rw[rounds_succ];go_wp21;refine wp_loop_rounds 1 ?_;rw[rounds_succ];go_wp21;refine zbl (λ_ W=>qL w W) (by kernel_rfl) (by kernel_rfl) (zM _ _).drew ?_;refine qR (.int .i64 1) ?_;refine qR (.int .i64 0) ?_;refine qR (.bool true) ?_;simp only[zzQ];refine qR (.bool true) ?_;refine qR (.func (.func 51) #[] #[]) ?_;refine qR (.slice (some ⟨g,0,none⟩) 2 cap) ?_;simp only[zzQ];refine qR (.int .i64 1) ?_;refine qR (.pointer (some ⟨g,2,none⟩)) ?_;refine qR (.agg #[St x1,St y1]) ?_ (hy:=λf W' hf h=>by obtain⟨c0,c1,c2,c3⟩:=HC.out;have d0:=zai h c2;have d1:=zai h c3;go_simp);simp only[zzQ];refine qR (.slice (some ⟨g,0,none⟩) 2 cap) ?_;refine qR (.int .i64 1) ?_;refine qR (.int .i64 0) ?_ (hy:=λf W' hf h=>by go_simp;decide);simp only[zzQ];refine qR (.pointer (some ⟨g,0,none⟩)) ?_;refine qR (.agg #[St x0,St y0]) ?_ (hy:=λf W' hf h=>by obtain⟨c0,c1,c2,c3⟩:=HC.out;have d0:=zai h c0;have d1:=zai h c1;go_simp);simp only[zzQ]
 refine zar (.int .i64 n) (by rfl) (λf W' hf h C' hC'=>by
  go_simp;refine zzM (CM.out _ (HW.out.below h)) λw' hb=>?_;exact⟨rfl,hC' _ (h.trans (hb.mono h.size))⟩) ?_
 refine qR (.bool false) ?_;refine qR (.bool false) ?_;simp only[zzQ];refine zck λf X hf h=>?_;have HB:=hid h;clear hf h;go_wp21;rw[rounds_succ];go_wp21;go_end0;exact⟨⟨_,rfl⟩,HB.out⟩
theorem ycr (v f:Value) (n:Int) (w:zA)
 (IN:Hid (zC zF 192 #[v,.int .i64 0,.int .i64 2,f] w λe w'=>(∃u,e=.returned u)/\zB w.heap.size w w')):
 zC zF 118 #[v,.int .i64 0,.int .i64 2,.int .i64 n,f] w λe w'=>(∃u,e=.returned u)/\zB w.heap.size w w':=by
 go_enter Tryz.func118,Tryz.ntmps118;go_wp21;refine wp_loop_rounds 1 ?_;rw[rounds_succ];go_wp21;refine IN.out.mono ?_;rintro e w' ⟨⟨u,rfl⟩,hb⟩;have HB:=hid hb;clear hb;go_wp21;refine bodyPost_ret (results_none rfl _ _ _) rfl ?_;exact⟨⟨_,rfl⟩,HB.out⟩
theorem ybm (g cap:Nat) (x0 y0 x1 y1:List UInt8) (n:Int) (hn:decide (n<0)=false)
 (CM:Hid (qK 51 #[.agg #[St x1,St y1],.agg #[St x0,St y0]] (.int .i64 n)))
 (w:zA) (HW:Hid (Wd w)) (HC:Hid (w.cell? ⟨g,0,none⟩=some (St x0)/\w.cell? ⟨g,1,none⟩=some (St y0)/\w.cell? ⟨g,2,none⟩=some (St x1)/\w.cell? ⟨g,3,none⟩=some (St y1))):
 zC zF 50 #[.slice (some ⟨g,0,none⟩) 2 cap,.func (.func 51) #[] #[]] w λe w'=>(∃u,e=.returned u)/\zB w.heap.size w w':=by
 have hl:=Tryz.bits_Len 2 w (by omega) (by omega);have HL:=hid hl;clear hl;have HI:=hid λm=>ycr _ _ m w (hid (z9f g cap x0 y0 x1 y1 n hn CM w HW HC));go_enter Tryz.func50,Tryz.ntmps50;go_wp21;refine HL.out.mono ?_;rintro e w' ⟨rfl,rfl⟩;go_wp21;refine(HI.out _).mono ?_;rintro e w'' ⟨⟨u,rfl⟩,hb⟩;have HB:=hid hb;clear hb;go_wp21;go_end0;exact⟨⟨_,rfl⟩,HB.out⟩
theorem zpo {W:zA} {B n c:Nat} {q:Option Addr} {l:List (List UInt8×List UInt8)} (h:W.ownsRow B 37 2 (.slice q n c) n (zbj l)) (h0:0<n):
 n<=c/\∃g,q=some ⟨g,0,none⟩/\B<=g/\g<W.heap.size/\(∀j u,(zbj l)[j]? =some u->W.cell? ⟨g,j,none⟩=some u)/\∀(i:Nat) (c:List UInt8×List UInt8),l[i]? =some c->W.cell? ⟨g,i*2,none⟩=some (St c.1)/\W.cell? ⟨g,i*2+1,none⟩=some (St c.2):=by
 obtain⟨g,c',e,hg,hx⟩:=zye h h0;have hl:=(h.lt g (by rw[e];rfl)).2;have hnc:n<=c:=by
  rcases h.2 with⟨e1,_⟩|⟨g',cp,cur,e1,_,_,h1,_⟩
  ·cases e1;omega
  ·cases e1;exact h1
 injection e with e1 _ _;exact⟨hnc,g,e1,hg,hl,λj u hu=>hx j u hu,λi d hi=>⟨hx _ _ (zpb l i d hi).1,hx _ _ (zpb l i d hi).2⟩⟩
theorem z61 (a b c:Rat) (i j:Nat) (hi:0<i) (hj:0<j) (hij:i+j<=300) (ha:sz a i) (hb:sz b j) (h:a*b=c) (W:zA) (hW:Wd W):qJ 9 #[St (numS a),St (numS b)] W (.tuple #[St (numS c),.int .i64 0]):=by
 rw[<-h];exact zjf a b i j hi hj hij ha hb W hW
theorem yee (a b:Rat) (ha:sz a 2) (hb:sz b 2) (n:Int) (h:Geo.cmpR a b=n) (W:zA) (hW:Wd W):qJ 18 #[St (numS a),St (numS b)] W (.tuple #[.int .i64 n,.int .i64 0]):=by
 rw[<-h];exact zgq a b 2 2 (by omega) (by omega) (by omega) ha hb W hW
theorem ydt (q:Rat) (h:sz q 2):∃n:Int,n<=2/\qK 49 #[St (numS q)] (.int .i64 n):=by
 have d:=zok (k:=2) (by omega) h;have d2:digs (q.den:Int)<=2:=by rw[zd9];exact d.2
 exact⟨max (digs q.num:Int) (digs (q.den:Int):Nat),by have:=d.1;omega,λW hW=>znp q (zd0 (by omega) (by omega) h) W hW⟩
def a2X (a:Rat) (i:Nat):List UInt8:=if i=0 then numS a else numS (-1)
def a2Y (i:Nat):List UInt8:=if i=0 then numS 1 else numS 2
def a2L (a:Rat):Nat->List (List UInt8×List UInt8)
 |0=>[]
 |1=>[(numS a,numS 1)]
 |_=>[(numS a,numS 1),(numS (-1),numS 2)]
theorem zsf {a:Rat} (h:a≠0):(numS a==[48])=false:=by rw[beq_eq_false_iff_ne];exact λe=>h ((zpy a).1 e)
theorem ydu (a:Rat) (ha:a≠0) (sa:sz a 2) (gb:Nat):∀i,i<2->∃one k n m ln,VisC gb (a2X a i) (a2Y i) (GatL gb (a2L a i)) (GatL gb (a2L a (i+1))) one k n m ln
 |0,_=>⟨true,numS 1,numS 1,numS a,1,zsf ha,by show(numS 1==[48])=false;rw[zfc];rfl,by show(numS 1==[49])=true;rw[zfc];rfl,λ_=>⟨zfc,rfl⟩,λh=>(by cases h),λW hW=>zmw 1 zb7.2.1 zmx.1 W hW,by decide,λW hW=>z61 a 1 a 2 1 (by omega) (by omega) (by omega) sa zb7.2.1 (by rw[Rat.mul_one]) W hW,λW W' h hb=>GatL.keep h (zac hb),λW hW h=>
    zot gb [] _ _ (by decide) (hid λi c hc=>by simp at hc) W (hid hW) (hid h)⟩
 |1,_=>⟨false,numS 1,numS 2,numS (-1),1,by show(numS (-1)==[48])=false;rw[nm_1];rfl,by show(numS 2==[48])=false;rw[nm2];rfl,by show(numS 2==[49])=false;rw[nm2];rfl,λh=>(by cases h),λ_ W hW hP=>z0s 2 1 2 (by omega) (by omega) zln.2.1 W hW hP,λW hW=>zmw 2 zb7.2.2.1 zmx.2.1 W hW,by decide,λW hW=>zon (-1) 1 (-1) zb7.2.2.2.2.1 zb7.2.1 (by decide+kernel) W hW,λW W' h hb=>GatL.keep h (zac hb),λW hW h=>
    zot gb [(numS a,numS 1)] _ _ (by simp) (hid λi c hc=>⟨_,by
     match i,hc with
     |0,hc=>simp at hc;subst hc;exact λW hW=>z27 W hW
     |_+1,hc=>simp at hc⟩) W (hid hW) (hid h)⟩
theorem z3p (a:Rat) (ha:a≠0):∀i,zin (a2L a i)=a2L a i
 |0=>rfl
 |1=>by simp[zin,a2L,zsf ha]
 |_+2=>by simp[zin,a2L,zsf ha,zsf (show(-1:Rat)≠0 by decide)]
theorem zrl (a:Rat):∀i,i<=2->(a2L a i).length=i
 |0,_=>rfl
 |1,_=>rfl
 |2,_=>rfl
theorem z8k (a:Rat) (ha:a≠0) (sa:sz a 2) (n:Nat) (h0:0<n) (hn:n<=2) (q:Option Addr) (c:Nat) (w:zA) (HW:Hid (∀W,qL w W->Wd W)) (HP:Hid (∀W,qL w W->Pw W))
 (HT:Hid (∀i,i<n->∃b off,q=some ⟨b,off,none⟩/\b<w.heap.size/\w.cell? ⟨b,off+i*2,none⟩=some (St (a2X a i))/\w.cell? ⟨b,off+i*2+1,none⟩=some (St (a2Y i)))):
 zC zF 11 #[.slice q n c] w λe w'=>∃q' c',e=.returned (.tuple #[.slice q' n c',.int .i64 0])/\zB w.heap.size w w'/\w'.ownsRow w.heap.size 37 2 (.slice q' n c') n (zbj (a2L a n)):=by
 have ok1:=zfj 1 (zm5 zb7.2.1);have ok2:=zfj 2 (zm5 zb7.2.2.1);have oka:=zfj a (zd0 (by omega) (by omega) sa);have okm:=zfj (-1) (zm5 zb7.2.2.2.2.1);have hkl:(zin (a2L a n)).length=n:=by rw[z3p a ha,zrl a n hn]
 have hm:=z5l q c n (a2X a) a2Y (a2L a n) (a2L a n) (by omega) (by rw[zrl a n hn];omega) (by rw[hkl];omega)
  (hid λi hi W hW=>by unfold a2X;split;exact oka W hW;exact okm W hW)
  (hid λi hi W hW=>by unfold a2Y;split;exact ok1 W hW;exact ok2 W hW)
  (hid λi hi W=>by unfold a2Y;split;exact zqa _ (.inl zfc) W;exact zqa _ (.inr (.inl nm2)) W)
  w HW HT
  (hid λu vg h1 h2 h3 h4=>by
    have hs:=h1.size
    exact z4e u.heap.size q c n (a2X a) a2Y (λi=>GatL u.heap.size (a2L a i)) (by omega) (hid λi hi=>ydu a ha sa u.heap.size i (by omega)) vg (by omega)
     (hid λW h=>HW.out _ (h1.trans ((h2.trans h).mono hs))) (hid λW h=>HP.out _ (h1.trans ((h2.trans h).mono hs))) h4
     (hid λi hi=>by
       obtain⟨b,off,e,hb,c0,c1⟩:=HT.out i hi;have hB:qL w vg:=h1.trans (h2.mono hs);exact⟨b,off,e,by omega,by rw[hB.cell (p:=⟨b,off+i*2,none⟩) hb];exact c0,by rw[hB.cell (p:=⟨b,off+i*2+1,none⟩) hb];exact c1⟩))
  (hid λi c hc h0=>by
    obtain⟨k,hk,hka⟩:=ydt a sa;have hi:c=(numS a,numS 1)\/c=(numS (-1),numS 2):=by
     match n,hn,hc with
     |0,_,hc=>simp[a2L] at hc
     |1,_,hc=>have:=List.mem_of_getElem? hc;simp[a2L] at this;exact .inl this
     |2,_,hc=>have:=List.mem_of_getElem? hc;simp[a2L] at this;exact this
    rcases hi with rfl|rfl
    ·exact⟨k,1,λW hW=>hka W hW,λW hW=>zmw 1 zb7.2.1 zmx.1 W hW,by rw[decide_eq_false];omega,by decide⟩
    ·exact⟨1,1,λW hW=>zmw (-1) zb7.2.2.2.2.1 zmx.2.2 W hW,λW hW=>zmw 2 zb7.2.2.1 zmx.2.1 W hW,by decide,by decide⟩)
  (hid λB W q c h1 h2 h3 h4=>by
    rw[z3p a ha,zrl a n hn] at h4⊢
    match n,h0,hn with
    |1,_,_=>exact(z43 q c _ W).mono λe w' ⟨h5,h6⟩=>⟨h5,by rw[h6];exact zM _ _,by rw[h6];exact h4⟩
    |2,_,_=>
     obtain⟨-,g,rfl, -, -, -,hx⟩:=zpo h4 (by omega);obtain⟨c0,c1⟩:=hx 0 _ rfl;obtain⟨c2,c3⟩:=hx 1 _ rfl;have hW:=HW.out W h1;refine(ybm g c (numS a) (numS 1) (numS (-1)) (numS 2) 1 (by decide) (hid λV hV=>z5e _ _ _ _ 1 (hid λU hU=>yee 2 1 (zb7.2.2.1.mono (by omega)) (zb7.2.1.mono (by omega)) 1 (by decide+kernel) U hU) V (hid hV)) W (hid hW) (hid ⟨c0,c1,c2,c3⟩)).mono λe w' ⟨h5,h6⟩=>⟨h5,h6.mono h3,zcj (zac h6) h4⟩)
 rw[z3p a ha,zrl a n hn] at hm;exact hm
def strT (t:Rat×Nat):List UInt8×List UInt8:=(numS t.1,zD t.2)
theorem zi3:∀l:List (Rat×Nat),zin (l.map strT)=(l.filter λc=>!decide (c.1=0)).map strT
 |[]=>rfl
 |c::l=>by
  have ih:=zi3 l;unfold zin at ih⊢;rw[List.map_cons,List.filter_cons,List.filter_cons,ih];by_cases e:c.1=0
  ·have h1:((strT c).1==[48])=true:=by unfold strT;rw[e];simp[zie]
   simp[h1,e]
  ·have h1:((strT c).1==[48])=false:=zsf e
   simp[h1,e]
theorem zf4 (r s:Nat) (h:NrmR r) (hs:NrmR s) (ha:z5c (r:Rat) (s:Rat)=false) (W:zA) (hW:Wd W):qJ 114 #[St (zD r),St (zD s)] W (.tuple #[.string ⟨#[]⟩,.bool false,.int .i64 0]):=by
 have hp:(0:Rat)<(r:Rat):=by have:=h.pos;exact_mod_cast this
 have hq:(0:Rat)<(s:Rat):=by have:=hs.pos;exact_mod_cast this
 have sr:sz (r:Rat) 90:=(zrg (by omega) h.len).mono (by omega);have ss:sz (s:Rat) 90:=(zrg (by omega) hs.len).mono (by omega);have:=zvz (r:Rat) (s:Rat) (Rat.le_of_lt hp) hq sr ss _ _ (zv0 _) (zv0 _) W hW;unfold z5c at ha;rw[ha,zhe,zhe] at this;exact this
theorem zui:∀(l:List (List UInt8×List UInt8)),∀u∈zbj l,u.oneCell'=true
 |[],u,h=>by simp[zbj] at h
 |a::r,u,h=>by
  rcases List.mem_cons.1 h with rfl|h
  ·rfl
  ·rcases List.mem_cons.1 h with rfl|h
   ·rfl
   ·exact zui r u h
theorem zpa {w:zA} {base:Nat} {e:TypeId} {s:Nat} {v:Value} {n:Nat} {xs:List Value} (h:w.ownsRow base e s v n xs):∃q c,v=.slice q n c:=by
 rcases h.2 with⟨rfl,rfl⟩|⟨g,cp,cur,rfl,_⟩
 ·exact⟨none,0,rfl⟩
 ·exact⟨_,cp,rfl⟩
def catL (L:Nat->List (List UInt8×List UInt8)):Nat->List (List UInt8×List UInt8)
 |0=>[]
 |k+1=>catL L k++L k
theorem zih (L:Nat->List (List UInt8×List UInt8)) {k:Nat}:∀{m:Nat},k<=m->(catL L k).length<=(catL L m).length
 |0,h=>by rw[show k=0 by omega];exact zN _
 |m+1,h=>by
  rcases Nat.lt_or_ge m k with h1|h1
  ·obtain rfl:k=m+1:=by omega
   exact zN _
  ·have:=zih L h1
   show _<=(catL L m++L m).length;rw[zU];omega
theorem z62 (n:Nat) (h1:1<=n) (hn:n<=10000) (w:zA):
 zC zF 202 #[.slice none 0 0,.int .i64 (n:Int)] w λe w'=>∃v,e=.returned v/\w'.ownsRow w.heap.size 37 2 v 0 []/\zB w.heap.size w w':=by
 obtain⟨i0,hi,hz0,hz1,hz2⟩:=info_parts zsc;have hrz:∀ty,(Builtin.append_ #[26,3] ty #[.slice none 0 0,.int .i64 (n:Int)]).run zF w=
  .ok (.slice (some ⟨w.heap.size,0,none⟩) n (grownCap w n 0 37)) (w.drew.alloc (.cells (#[]++Builtin.zeroCells (Value.agg #[St [],St []]).cells n++Builtin.zeroCells (Value.agg #[St [],St []]).cells (grownCap w n 0 37-n)) 37)):=λty=>by
  have h:=Lib.run_append_grow_zeros w 26 3 ty 37 i0 (.agg #[St [],St []]) .i64 .i64 Tryz.underlying26 Tryz.underlying3 hi hz0 none 0 0 [] (run_firstCells_none w.drew i0.size 0 0 0) n h1 (by omega) (by omega) (by omega) (by rw[hz2];omega) (by rw[hz2];exact growslice_fits (by omega) (by omega));simpa using h
 have hGn:n<=grownCap w n 0 37:=grownCap_ge w _ _ _;have hGm:grownCap w n 0 37<=maxLen:=grownCap_le_maxLen w n 0 37 (by unfold maxLen;omega);generalize grownCap w n 0 37=G at*
 have HR:=hid (hrz);clear hrz;have HG:=hid (⟨hGn,hGm⟩:n<=G/\G<=maxLen);have hG63:G<=9223372036854775807:=by unfold maxLen at hGm;omega
 clear hi hz0 hz1 hz2 hGm;have hn0:¬(n:Int)<0:=by omega
 have hn1:(0:Int)<n:=by omega
 have hw1:IntKind.i64.wrap (n:Int)=n:=zI _ ⟨by omega,by omega⟩;go_enter Tryz.func202,Tryz.ntmps202;go_wp2_with (at_builtin;refine Lib.wpList_append_run _ rfl _ _ _ _ rfl _ _ rfl rfl _ _ (HR.out _) ?_);go_ret;refine⟨_,rfl,⟨rfl,.inr ⟨w.heap.size,G,_,rfl,zN _,zG w _,zR _,HG.out.2,?_,by simp⟩⟩,((zM _ w).alloc (zN _) _).drew⟩;have:=HG.out.1;rw[Array.size_append,size_zeroCells,size_zeroCells];show n*2+(G-n)*2=G*2;omega
theorem z5g (b m:Nat) (p:Nat->Option Addr) (c:Nat->Nat) (L:Nat->List (List UInt8×List UInt8)) (hm:m<=4096) (hN:(catL L m).length<=4096) (w:zA)
 (GR:Hid (∀W:zA,zC zF 202 #[.slice none 0 0,.int .i64 ((catL L m).length:Int)] W λe w'=>∃v,e=.returned v/\w'.ownsRow W.heap.size 37 2 v 0 []/\zB W.heap.size W w'))
 (HX:Hid (∀k,k<m->(p k=none/\(L k).length=0/\c k=0)\/∃g o,p k=some ⟨g,o,none⟩/\∀W:zA,qL w W->∀j u,(zbj (L k))[j]? =some u->W.cell? ⟨g,o+j,none⟩=some u))
 (HA:Hid (∀W:zA,qL w W->∀k,k<m->W.cell? ⟨b,k,none⟩=some (.slice (p k) (L k).length (c k)))):
 zC zF 122 #[.slice (some ⟨b,0,none⟩) m m] w λe w'=>∃v,e=.returned v/\w'.ownsRow w.heap.size 37 2 v (catL L m).length (zbj (catL L m))/\zB w.heap.size w w':=by
 obtain⟨N,hNe⟩:=zzX ((catL L m).length);rw[<-hNe] at GR hN⊢;have HN:=hid hNe;clear hNe;go_enter Tryz.func122,Tryz.ntmps122;go_wp21;go_loopw [11,3] (λi z wr=>∃(k:Nat),k<=m/\i=.int .i64 (k:Int)/\z=.int .i64 ((catL L k).length:Int)/\Hid (wr=w))
  (λi _ _=>m-(zL i).toNat)
 case atStart=>exact⟨0,zR _,rfl,rfl,hid rfl⟩
 case round=>
  obtain⟨k,hk,rfl,rfl,hB⟩:=hrel;obtain rfl:=hB.out.symm;clear hB;by_cases hlt:k<m
  ·have a0:=HA.out w (zM _ _) k hlt
   have hxy:(catL L k).length+(L k).length=(catL L (k+1)).length:=(zU ..).symm;have hle:(catL L (k+1)).length<=4096:=zO (zih L hlt) (by rw[<-HN.out];exact hN);obtain⟨z,hz⟩:=zzX ((catL L (k+1)).length);rw[<-hz] at hxy hle;have HZ:=hid hz;clear hz;generalize (catL L k).length=x at*
   generalize (L k).length=y at*
   generalize p k=pk at a0;generalize c k=ck at a0;have hw1:IntKind.i64.wrap ((x:Int)+(y:Int))=(z:Int):=by rw[zI _ ⟨by omega,by omega⟩];omega
   have hn0:¬(z:Int)<0:=by omega
   clear hxy hle;go_wp21;go_roundw
   case rel=>exact⟨k+1,by omega,by go_num,by rw[HZ.out],hid trivial⟩
   case measure=>simp[zL];omega
  ·have hkm:k=m:=by omega
   subst hkm;rw[<-HN.out];go_wp21;refine(GR.out w).mono ?_;rintro e w1 ⟨v,rfl,hown,hb1⟩;obtain⟨q0,c0,rfl⟩:=zpa hown;have HO1:=hid hown;have HB1:=hid hb1;clear hown hb1 GR;go_wp21;go_loopw [27,6] (λi v wr=>∃(j:Nat) (q:Option Addr) (c':Nat),j<=k/\i=.int .i64 (j:Int)/\v=.slice q (catL L j).length c'/\Hid (qL w wr)/\Hid (wr.ownsRow w.heap.size 37 2 (.slice q (catL L j).length c') (catL L j).length (zbj (catL L j))))
    (λi _ _=>k-(zL i).toNat)
   case atStart=>exact⟨0,q0,c0,zR _,rfl,rfl,HB1,HO1⟩
   case round=>
    obtain⟨j,q,c',hj,rfl,rfl,hB,hO⟩:=hrel;by_cases hjk:j<k
    ·have a0:=HA.out wr hB.out j hjk
     obtain⟨i0,hi,hz0,hz1,hz2⟩:=info_parts zsc;have HD:=hid (⟨hi,hz0,hz1,hz2⟩:_/\_/\_/\_);have HS:=hid (show(catL L j).length+(L j).length=(catL L (j+1)).length from(zU ..).symm);have HL:=hid (show(catL L j).length+(L j).length<=4096 by rw[HS.out];exact zO (zih L hjk) (by rw[<-HN.out];exact hN));clear hi hz0 hz1 hz2;rcases HX.out j hjk with⟨e1,e2,e3⟩|⟨g,o,e1,hc⟩
     ·rw[e1,e2,e3] at a0
      have HE:=hid (show catL L (j+1)=catL L j by show catL L j++L j=_;rw[List.length_eq_zero_iff.1 e2,List.append_nil]);clear e1 e2 e3;go_wp2_with (at_builtin;refine wpList_append_own_none rfl _ _ 26 rfl w.heap.size 37 i0 2 Tryz.underlying26 HD.out.1 (.slice q (catL L j).length c') (catL L j).length (zbj (catL L j)) rfl hO.out rfl ?_);go_wp21;go_roundw
      case rel=>exact⟨j+1,q,c',by omega,by go_num,by rw[HE.out],hB,by rw[HE.out];exact hO⟩
      case measure=>simp[zL];omega
     ·rw[e1] at a0
      have HN0:=hid (show ∀i u,(zbj (L j))[i]? =some u->wr.cell? ((⟨g,o,none⟩:Addr).add i)=some u from λi u hu=>by
       have ea:(⟨g,o,none⟩:Addr).add i=⟨g,o+i,none⟩:=by unfold Addr.add;split<;>simp_all
       rw[ea];exact hc wr hB.out _ _ hu)
      clear e1 hc;go_wp2_with (at_builtin;refine wpList_append_own_at _ rfl _ _ 26 rfl w.heap.size 37 i0 (.agg #[St [],St []]) 2 32 Tryz.underlying26 HD.out.1 HD.out.2.1 HD.out.2.2.1 HD.out.2.2.2 rfl (by decide) (.slice q (catL L j).length c') (catL L j).length (zbj (catL L j)) rfl hO.out ⟨g,o,none⟩ (L j).length (c j) (zbj (L j)) rfl (by rw[zn8]) HN0.out (zui _) (by have:=HL.out;unfold maxLen;omega) (by have:=HL.out;omega) hB.out.size ?_);intro v' w2 hown' hgrow hnil hat
      obtain⟨q',c3,rfl⟩:=zpa hown';have HB2:=hid (hB.out.grown hgrow hB.out.size (λg e=>(hO.out.lt g e).1));have HO2:=hid (show w2.ownsRow w.heap.size 37 2 (.slice q' (catL L (j+1)).length c3) (catL L (j+1)).length (zbj (catL L (j+1))) by
       rw[<-HS.out,show catL L (j+1)=catL L j++L j from rfl,zjb];exact hown')
      clear hown' hgrow hnil hat
      go_wp21;go_roundw
      case rel=>exact⟨j+1,q',c3,by omega,by go_num,by rw[<-HS.out],HB2,HO2⟩
      case measure=>simp[zL];omega
    ·have hjk2:j=k:=by omega
     subst hjk2;go_wp21;go_ret;refine⟨_,rfl,?_,hB.out⟩;rw[HN.out];exact hO.out
theorem zl9 (w:zA):
 zC zF 202 #[.slice none 0 0,.int .i64 ((0:Nat):Int)] w λe w'=>∃v,e=.returned v/\w'.ownsRow w.heap.size 37 2 v 0 []/\zB w.heap.size w w':=by
 go_enter Tryz.func202,Tryz.ntmps202;go_wp21;go_ret;exact⟨_,rfl,World.ownsRow_nil _ _ _ _,zM _ _⟩
theorem zgi (v f:Value) (w:zA):
 zC zF 192 #[v,.int .i64 0,.int .i64 ((0:Nat):Int),f] w λe w'=>(∃u,e=.returned u)/\zB w.heap.size w w':=by
 go_enter Tryz.func192,Tryz.ntmps192;go_wp21;refine wp_loop_rounds 1 ?_;rw[rounds_succ];go_wp21;go_end0;exact⟨⟨_,rfl⟩,zM _ _⟩
end
end Go.Proofs.YtnjiiafnneillaaGreatDoor
