/- The iterator over the pairs of -/
import Derived.Test.YtjmljcdbjakefaaGreatDoorZ12
import Derived.LoopNIn
import Derived.Laws.AppendOwn
import Derived.Laws.CopyRow
import Derived.Laws.CopyOwn
import Derived.Lib.SmallJoins
import Derived.RangeFuncRecord
import Derived.Lib.Overlaps
import Derived.Lib.AppendZerosOnto
set_option maxRecDepth 100000
set_option maxHeartbeats 8000000
open Go.Value renaming slice → z7, string → z8, tuple → ze, pointer → zf, bool → zg, agg → zh, int → zj
open Go.IntKind renaming i64 → zm
open Go.Obj renaming cells → zn
open Go.Ending renaming returned → zo
open Option renaming none → zp, some → zq
open Bool renaming true → zt, false → zu
open Go renaming undef → zv
open Go renaming World → zA, Calls → zC
open Go.Lib renaming decDigits → zD, itoa → zE
open Go.Proofs.Tryz renaming prog → zF
open Go.IntWalk renaming i64_in → zI
open Go.Joins renaming cell_of_block → zJ
open Go.RowKit renaming intOf → zL
open Go.RowKit.Below renaming refl → zM, heap_setCell → yE
open Nat renaming le_refl → zN, zero_le → zR, lt_of_lt_of_le → zS
open List renaming length_append → zU, length_drop → zW, length_take → zX, size_toArray → zZ, length_cons → yA, getElem?_eq_getElem → yB, mem_append → yC, nil_append → yI, append_assoc → yL, cons_append → yM, take_append_drop → yN, length_nil → yT, push_toArray → yW, append_toArray → yX, take_of_length_le → xC
open Array renaming replicate_succ → yU, replicate_zero → yV
namespace Go.Proofs.YtjmljcdbjakefaaGreatDoor
section
open Go.RowKit Go.Shelf Lib Str Limb
attribute [local go_sem] Oper.semAt_some
theorem yip (av:Nat) (f:1<=av) (T:Nat) (p:Option Addr) (n cap:Nat) (bh:n<=32) (I:Hid (Enum2 n)) (X u Z:Nat->List UInt8) (D:Nat->Value) (aj:∀i,∃q m c,D i=z7 q m c) (K V J:Nat->Nat->List UInt8) (ad:zA->Prop)
 (aq:∀j,ad j->j.cell? ⟨T,0,zp⟩=zq (z7 p n cap)/\RowHf p n X u Z D j/\∀i k,i<k->k<n->∀b:zA,qL j b->zC zF 70 #[zh #[St (X i),St (u i),St (Z i)],zh #[St (X k),St (u k),St (Z k)]] b λe w'=>e=zo (ze #[zh #[St (K i k),St (V i k),St (J i k)],zj zm 0])/\Below b.heap.size b w'):
 IterC Fence.wide av zF 150 #[zf (zq ⟨T,0,zp⟩)] ad (λt args=>∃i k,(ix2 n)[t]? =zq (i,k)/\args= #[zh #[St (K i k),St (V i k),St (J i k)],zj zm 0]) (ix2 n).length:=by
 intro bk ac bc j an am ar v;refine callsIn_of_wp Tryz.func150 rfl trivial ?_ rfl;simp only[Tryz.ntmps150,zZ,yA,yT,Nat.reduceAdd,Nat.reduceSub,yU,yV,yW,yX,yI,yM];have a2:=hid λk j a=>aq j (an k j a);clear aq an;have ay:=hid ar;clear ar;have a0:=hid am;clear am;have U:=hid v;clear v;have a3:=(a2 _ _ U.out).1;gi_wp2_with fail;clear a3;gi_loopw [9] (λi wr=>∃(k:Nat),k<=n/\i=zj zm (k:Int)/\Hid (ac (cn2 0 k) wr))
  (λi _=>n-(zL i).toNat)
 case atStart=>exact⟨0,zR _,rfl,by rw[I.start];exact U⟩
 case round=>
  clear U;obtain⟨k,bf,rfl,y⟩:=hrel;by_cases hlt:k<n
  ·gi_wp2_with fail
   gi_loopg [13] k (λm b9 wr=>∃i:Nat,i<=k/\k-i=m/\b9=zj zm (i:Int)/\Hid (ac (cn2 i k) wr))
   case atStart=>exact⟨0,by omega,by omega,by first|rfl|go_num,y⟩
   case round=>
    clear y;obtain⟨i,be,bg,rfl,y⟩:=hrel;by_cases hi:i<k
    ·have a7:=I.at_ i k hi hlt
     have a6:=a0 _ wr wr.drew y (zM _ wr).drew;have Y:=hid a6;obtain⟨-,A,au⟩:=a2 _ _ a6;obtain⟨g,h,rfl, -⟩:=A i (by omega);have ab:=hid λj a=>ay (cn2 i k) #[zh #[St (K i k),St (V i k),St (J i k)],zj zm 0] j a (List.getElem?_eq_some_iff.1 a7).1 ⟨i,k,a7,rfl⟩;have a9:=hid (au i k hi hlt);obtain⟨R,P,L,ah⟩:=aj i;obtain⟨S,Q,c1,ai⟩:=aj k;have z:=hid (show ∀b,Below wr.drew.heap.size wr.drew b->b.cell? ⟨T,0,zp⟩=zq (z7 (zq ⟨g,h,zp⟩) n cap)/\
      b.cell? ⟨g,h+i*4,zp⟩=zq (St (X i))/\b.cell? ⟨g,h+i*4+1,zp⟩=zq (St (u i))/\b.cell? ⟨g,h+i*4+2,zp⟩=zq (St (Z i))/\b.cell? ⟨g,h+i*4+3,zp⟩=zq (z7 R P L)/\
      b.cell? ⟨g,h+k*4,zp⟩=zq (St (X k))/\b.cell? ⟨g,h+k*4+1,zp⟩=zq (St (u k))/\b.cell? ⟨g,h+k*4+2,zp⟩=zq (St (Z k))/\b.cell? ⟨g,h+k*4+3,zp⟩=zq (z7 S Q c1) from λb w=>by
      obtain⟨a3,A, -⟩:=a2 _ _ (a0 _ _ _ Y w);obtain⟨b0,bb,l,a1,az,a',af⟩:=A i (by omega);injection l with l;injection l with l a4;subst l;subst a4;obtain⟨b0,bb,l,b1,b2,b3,ag⟩:=A k (by omega);injection l with l;injection l with l a4;subst l;subst a4;rw[ah] at af;rw[ai] at ag;exact⟨a3,a1,az,a',af,b1,b2,b3,ag⟩)
     clear A au a6 ah ai a7
     have aa:=hid (λ(j:zA) (a:Below wr.drew.heap.size wr.drew j)=>a0 _ _ j Y a);generalize X i=C at*;generalize u i=F at*;generalize Z i=z0 at*
     generalize X k=E at*;generalize u k=G at*;generalize Z k=z1 at*
     generalize K i k=r at*;generalize V i k=s at*;generalize J i k=t at*
     have bi:zm.wrap ((i:Int)+1)=((i+1:Nat):Int):=by rw[zI _ ⟨by omega,by omega⟩];omega
     gi_wp2_with fail;refine zdr (λ_=>trivial) rfl (λ(q:Nat->Nat) b8=>([z7 (zq ⟨g,h,zp⟩) n cap,zj zm (i:Int),zf (zq ⟨g,h+i*4,zp⟩),zh #[St C,St F,St z0,z7 R P L],zh #[St C,St F,St z0],z7 (zq ⟨g,h,zp⟩) n cap,zj zm (k:Int),zf (zq ⟨g,h+k*4,zp⟩),zh #[St E,St G,St z1,z7 S Q c1],zh #[St E,St G,St z1],ze #[zh #[St r,St s,St t],zj zm 0],ze #[zh #[St r,St s,St t],zj zm 0],zh #[St r,St s,St t],zj zm 0,zf (zq ⟨q 0,0,zp⟩),zv,zj zm 0]:List Value).getD b8 zv)
      (BoxS 1 14 15 #[St [],St [],St []] (λ_=> #[St r,St s,St t]) 137 wr.drew) (by kernel_rfl) (by kernel_rfl) (λ_=>0) (BoxS.start (zM _ wr.drew)) λq=>?_
     refine za2 (z7 (zq ⟨g,h,zp⟩) n cap) (by rfl) (by rfl) (λd b a=>a.step 0 (by decide) (by decide)) (λd b f a=>by obtain⟨x, -⟩:=z b a.bel;go_simp) ?_
     try simp only[zzQ]
     refine za2 (zj zm (i:Int)) (by rfl) (by rfl) (λd b a=>a.step 1 (by decide) (by decide)) (λd b f a=>by go_simp) ?_
     try simp only[zzQ]
     refine za2 (zf (zq ⟨g,h+i*4,zp⟩)) (by rfl) (by rfl) (λd b a=>a.step 2 (by decide) (by decide)) (λd b f a=>by go_simp;try(intro a;omega)) ?_
     try simp only[zzQ]
     refine za2 (zh #[St C,St F,St z0,z7 R P L]) (by rfl) (by rfl) (λd b a=>a.step 3 (by decide) (by decide)) (λd b f a=>by obtain⟨-,x,M,N,b4, -⟩:=z b a.bel;go_simp) ?_
     try simp only[zzQ]
     refine zeg (zh #[St C,St F,St z0]) (by rfl) (by rfl) (λd b f a H o=>by
      go_simp;refine⟨λ_=>by omega,(callsIn_wide.2 (zec C F z0 R P L b)).mono ?_⟩;rintro e w' ⟨rfl,w⟩;exact⟨_,rfl,o _ ((a.next w).step 4 (by decide) (by decide))⟩) ?_
     try simp only[zzQ]
     refine za2 (z7 (zq ⟨g,h,zp⟩) n cap) (by rfl) (by rfl) (λd b a=>a.step 5 (by decide) (by decide)) (λd b f a=>by obtain⟨x, -⟩:=z b a.bel;go_simp) ?_
     try simp only[zzQ]
     refine za2 (zj zm (k:Int)) (by rfl) (by rfl) (λd b a=>a.step 6 (by decide) (by decide)) (λd b f a=>by go_simp) ?_
     try simp only[zzQ]
     refine za2 (zf (zq ⟨g,h+k*4,zp⟩)) (by rfl) (by rfl) (λd b a=>a.step 7 (by decide) (by decide)) (λd b f a=>by go_simp;try(intro a;omega)) ?_
     try simp only[zzQ]
     refine za2 (zh #[St E,St G,St z1,z7 S Q c1]) (by rfl) (by rfl) (λd b a=>a.step 8 (by decide) (by decide)) (λd b f a=>by obtain⟨-, -, -, -, -,x,M,N,b4⟩:=z b a.bel;go_simp) ?_
     try simp only[zzQ]
     refine zeg (zh #[St E,St G,St z1]) (by rfl) (by rfl) (λd b f a H o=>by
      go_simp;refine⟨λ_=>by omega,(callsIn_wide.2 (zec E G z1 S Q c1 b)).mono ?_⟩;rintro e w' ⟨rfl,w⟩;exact⟨_,rfl,o _ ((a.next w).step 9 (by decide) (by decide))⟩) ?_
     try simp only[zzQ]
     refine zeg (ze #[zh #[St r,St s,St t],zj zm 0]) (by rfl) (by rfl) (λd b f a H o=>by
      have b6:=a9 b a.bel;go_simp;refine⟨λ_=>by omega,(callsIn_wide.2 b6).mono ?_⟩;rintro e w' ⟨rfl,w⟩;exact⟨_,rfl,o _ ((a.next w).step 10 (by decide) (by decide))⟩) ?_
     try simp only[zzQ]
     refine za2 (ze #[zh #[St r,St s,St t],zj zm 0]) (by rfl) (by rfl) (λd b a=>a.step 11 (by decide) (by decide)) (λd b f a=>by go_simp) ?_
     try simp only[zzQ]
     refine za2 (zh #[St r,St s,St t]) (by rfl) (by rfl) (λd b a=>a.step 12 (by decide) (by decide)) (λd b f a=>by go_simp) ?_
     try simp only[zzQ]
     refine za2 (zj zm 0) (by rfl) (by rfl) (λd b a=>a.step 13 (by decide) (by decide)) (λd b f a=>by go_simp) ?_
     try simp only[zzQ]
     refine zjk (zf (zq ⟨q 0,0,zp⟩)) (by rfl) (by rfl) (λd b f a H o=>by
      have v:=f.self;have b5:=f.no (j:=15) f.self (by kernel_rfl);have a8:=o (λB=>if B=0 then b.heap.size else q B) _ (λB O=>by
       match B,O with
       |0,_|1,_|2,_|3,_|4,_|5,_|6,_|7,_|8,_|9,_|10,_|11,_|12,_|13,_|15,_|16,_=>rfl
       |14,O=>rw[v] at O;cases O
       |_+17,_=>rfl) (a.new 0 (by decide) b5 (by decide))
      clear a o;go_simp;exact a8) ?_
     try simp only[zzQ]
     refine zeg zv (by rfl) (by rfl) (λd b f a H o=>by
      have v:=f.done 14 (by kernel_rfl);obtain⟨⟨bl,x⟩,⟨bm,M⟩,⟨bn,N⟩,z0,z1,z2⟩:=a.open 0 (by decide) v rfl rfl;have a8:=o _ (a.put 0 (by decide) v (by decide) (St r) (St s) (St t) rfl rfl);clear a o;go_simp;exact a8) ?_
     try simp only[zzQ]
     refine za2 (zj zm 0) (by rfl) (by rfl) (λd b a=>a.step 16 (by decide) (by decide)) (λd b f a=>by go_simp) ?_
     try simp only[zzQ]
     refine zls λd ae f a=>?_;have a5:=a.blk 0 (by decide) (f 14 (by decide));have ba:=a.lo 0 (by decide) (f 14 (by decide));rw[if_pos (f 15 (by decide))] at a5;have al:=aa ae a.bel;obtain⟨x,M,N, -⟩:=zah a5;obtain⟨fn,tmps,assign,body,b7,ap⟩:=ab ae al;clear a f a5 ba al aa ab z a9 Y;gi_wp2_with fail;refine ap.mono ?_;clear x M N b7 ap;rintro e bd (⟨rfl,ak⟩|⟨rfl,ao⟩)
     ·have aw:=hid ak;clear ak
      gi_wp2_with fail;go_roundg (k-(i+1))
      case rel=>exact⟨i+1,by omega,by omega,by first|rfl|go_num,aw⟩
      case measure=>omega
     ·have ax:=hid ao;clear ao
      gi_wp2_with fail;refine bodyPost_ret (results_none rfl _ _ _) rfl ?_;exact⟨⟨_,rfl⟩,.inr ax.out⟩
    ·obtain rfl:i=k:=by omega
     have W:=hid (I.next i hlt);have bj:zm.wrap ((i:Int)+1)=((i+1:Nat):Int):=by rw[zI _ ⟨by omega,by omega⟩];omega
     gi_wp2_with fail;go_roundw
     case rel=>exact⟨i+1,by omega,by first|rfl|go_num,by rw[<-W.out];exact y⟩
     case measure=>simp[zL];omega
  ·have W:=hid (show cn2 0 k=(ix2 n).length by rw[show k=n by omega];exact I.end_)
   gi_wp2_with fail;go_end0;exact⟨⟨_,rfl⟩,.inl (by rw[<-W.out];exact y.out)⟩
theorem yd7 (p:Option Addr) (cap n:Nat) (au:n<=32) (X y Z:Nat->List UInt8) (D:Nat->Value) (al:∀i,∃q m c,D i=z7 q m c) (r s t:Option Addr) (k l o g h j:Nat) (S:Nat->Int) (w:zA)
 (aj:Hid (∀i,i<n->∀L:zA,qL w L->qJ 82 #[zh #[St (X i),St (y i),St (Z i),D i],zh #[z7 r k g,z7 s l h,z7 t o j]] L (ze #[zj zm (S i),zj zm 0])))
 (ae:Hid (RowHf p n X y Z D w))
 (B:Bool) (T:(∀i,i<n->S i<=0)->B=zt) (R:∀i,i<n->0<S i->B=zu):
 qJ 116 #[z7 p n cap,zh #[z7 r k g,z7 s l h,z7 t o j]] w (ze #[zg B,zj zm 0]):=by
 have ah:=hid T;have ac:=hid R;clear T R;obtain⟨aw,E⟩:=zzX (w.alloc (zn #[z7 r k g,z7 s l h,z7 t o j] 99));obtain⟨M,F⟩:=hbxU E;have I:=hid F;have G:=hid M;have K:=hid E.symm;clear E M F;go_enter Tryz.func116,Tryz.ntmps116;go_wp21;rw[K.out];clear K;go_loopw [12] (λi wr=>∃(a:Nat),a<=n/\i=zj zm (a:Int)/\Hid (qL w wr/\(wr.heap[w.heap.size]? =zq (zn #[z7 r k g,z7 s l h,z7 t o j] 99 (0,0)))/\∀i,i<a->S i<=0))
  (λi _=>n-(zL i).toNat)
 case atStart=>exact⟨0,zR _,rfl,hid ⟨G.out,I.out,λi aq=>by omega⟩⟩
 case round=>
  clear G I;obtain⟨a,ar,rfl,A⟩:=hrel;obtain⟨b,z,d⟩:=A.out;by_cases hlt:a<n
  ·obtain⟨ap,av,rfl,ak,c1,c2,N⟩:=(ae.keep (zac b)) a hlt
   have u:=hid (aj a hlt);obtain⟨a5,a4,O,U⟩:=al a;rw[U] at N u;generalize X a=a7 at*
   generalize y a=a8 at*
   generalize Z a=a9 at*
   obtain⟨a6,f⟩:=zzX (wr.alloc (zn #[St a7,St a8,St a9,z7 a5 a4 O] 53));obtain⟨a1,aa⟩:=hbxU f;have v:=hid (b.trans (a1.mono b.size));have H:=hid (u a6 v.out);have x:=hid (zac a1 _ _ _ _ z);obtain⟨a0,a2,a3, -, -, -⟩:=zah x.out;have V:=a0;have W:=a2;have Y:=a3;rw[f] at V W Y;have af:=hid d;have J:=hid f.symm;clear f a1 aa U u b z d A;go_wp21;have P:=J.out
   try rw[show wr.alloc (zn #[z8 ⟨a7.toArray⟩,z8 ⟨a8.toArray⟩,z8 ⟨a9.toArray⟩,z7 a5 a4 O] 53)=a6 from P]
   clear P J ak c1 c2 N a0 a2 a3 V W Y;refine zzM H.out λax C=>?_;have Q:=qT v C;have am:=hid (zac C _ _ _ _ x.out);clear C H v x;cases hs:decide (0<S a)
   ·have ag:=hid (show ∀i,i<a+1->S i<=0 from λi an=>by
     by_cases e:i=a
     ·subst e;have:=of_decide_eq_false hs;omega
     ·exact af i (by omega))
    generalize S a=ao at*
    go_wp21;go_roundw
    case rel=>exact⟨a+1,by omega,by go_num,hid ⟨Q.out,am.out,ag.out⟩⟩
    case measure=>simp[zL];omega
   ·have ad:=hid (ac a hlt (of_decide_eq_true hs))
    generalize S a=ao at*
    go_wp21;go_ret2;obtain rfl:=ad.out;exact⟨rfl,Q.out⟩
  ·have ai:=hid (ah.out λi an=>d i (by omega))
   have ab:=hid b;clear b z d A;go_wp21;go_ret2;obtain rfl:=ai.out;exact⟨rfl,ab.out⟩
theorem ycp (x y z:ByteArray) (w:zA):
 qJ 113 #[zh #[z8 x,z8 y,z8 z]] w (zg (x.toList==[48]&&(y.toList==[48]&&z.toList==[48]))):=by
 generalize h:(x.toList==[48]&&(y.toList==[48]&&z.toList==[48]))=e;have b:=hid h;clear h;obtain⟨l,d⟩:=zzX (w.alloc (zn #[z8 x,z8 y,z8 z] 137));obtain⟨g,f⟩:=hbxU d;have a:=hid g;obtain⟨i,j,k, -, -, -⟩:=zah f;rw[d] at i j k;have c:=hid d.symm;clear d g f;go_enter Tryz.func113,Tryz.ntmps113;cases h0:(x.toList==[48])
 ·go_wp21
  rw[c.out];go_ret;obtain rfl:zu=e:=by rw[<-b.out,h0];rfl
  exact⟨rfl,a.out⟩
 ·cases h1:(y.toList==[48])
  ·go_wp21
   rw[c.out];go_ret;obtain rfl:zu=e:=by rw[<-b.out,h0,h1];rfl
   exact⟨rfl,a.out⟩
  ·cases h2:(z.toList==[48])
   ·go_wp21
    rw[c.out];go_ret;obtain rfl:zu=e:=by rw[<-b.out,h0,h1,h2];rfl
    exact⟨rfl,a.out⟩
   ·go_wp21
    rw[c.out];go_ret;obtain rfl:zt=e:=by rw[<-b.out,h0,h1,h2];rfl
    exact⟨rfl,a.out⟩
def atQ (S:Nat->Int):Nat->Int
 |0=>1
 |k+1=>min (atQ S k) (-S k)
theorem zx0 (p:Option Addr) (cap n:Nat) (am:n<=32) (X y Z:Nat->List UInt8) (D:Nat->Value) (ag:∀i,∃q m c,D i=z7 q m c) (r s t:Option Addr) (k l o g h j:Nat) (S:Nat->Int) (w:zA)
 (ac:Hid (∀i,i<n->∀d:zA,qL w d->qJ 82 #[zh #[St (X i),St (y i),St (Z i),D i],zh #[z7 r k g,z7 s l h,z7 t o j]] d (ze #[zj zm (S i),zj zm 0])))
 (ab:Hid (RowHf p n X y Z D w))
 (ai:∀i, -1<=S i/\S i<=1)
 (G:Hid (∀d:zA,qL w d->qJ 62 #[z7 p n cap] d (zj zm 0))):
 qJ 43 #[z7 p n cap,zh #[z7 r k g,z7 s l h,z7 t o j]] w (ze #[zj zm (atQ S n),zj zm 0]):=by
 obtain⟨aj,E⟩:=zzX (w.alloc (zn #[z7 r k g,z7 s l h,z7 t o j] 99));obtain⟨N,F⟩:=hbxU E;have J:=hid F;have e:=hid N;have L:=hid E.symm;clear E N F;go_enter Tryz.func43,Tryz.ntmps43;go_wp21;rw[L.out];clear L;refine zzM (G aj e.out) λaq B=>?_;have H:=hid (e.trans (B.mono e.size));have M:=hid (zac B _ _ _ _ J.out);clear B e J G;go_wp21;go_loopw [6,16] (λad i wr=>∃(a:Nat),a<=n/\ad=zj zm (atQ S a)/\i=zj zm (a:Int)/\Hid (qL w wr/\(wr.heap[w.heap.size]? =zq (zn #[z7 r k g,z7 s l h,z7 t o j] 99 (0,0)))))
  (λ_ i _=>n-(zL i).toNat)
 case atStart=>exact⟨0,zR _,rfl,rfl,hid ⟨H.out,M.out⟩⟩
 case round=>
  clear H M;obtain⟨a,al,rfl,rfl,A⟩:=hrel;obtain⟨b,z⟩:=A.out;by_cases hlt:a<n
  ·obtain⟨ak,ao,rfl,ae,c1,c2,O⟩:=(ab.keep (zac b)) a hlt
   have u:=hid (ac a hlt);obtain⟨a3,a2,P,R⟩:=ag a;rw[R] at O u;generalize X a=a5 at*
   generalize y a=a6 at*
   generalize Z a=a7 at*
   obtain⟨a4,f⟩:=zzX (wr.alloc (zn #[St a5,St a6,St a7,z7 a3 a2 P] 53));obtain⟨a1,a8⟩:=hbxU f;have v:=hid (b.trans (a1.mono b.size));have I:=hid (u a4 v.out);have x:=hid (zac a1 _ _ _ _ z);obtain⟨W,Y,a0, -, -, -⟩:=zah x.out;have T:=W;have U:=Y;have V:=a0;rw[f] at T U V;have K:=hid f.symm;clear f a1 a8 R u b z A;go_wp21;have Q:=K.out
   try rw[show wr.alloc (zn #[z8 ⟨a5.toArray⟩,z8 ⟨a6.toArray⟩,z8 ⟨a7.toArray⟩,z7 a3 a2 P] 53)=a4 from Q]
   clear Q K ae c1 c2 O W Y a0 T U V;refine zzM I.out λar C=>?_;have af:=qT v C;have ah:=hid (zac C _ _ _ _ x.out);clear C I v x;have an:zm.wrap (-S a)= -S a:=zI _ (by have:=ai a;omega);have a9:=hid (show atQ S (a+1)=min (atQ S a) (-S a) from rfl);generalize atQ S a=a1 at*
   generalize S a=ap at*
   go_wp21;go_roundw
   case rel=>exact⟨a+1,by omega,by rw[a9.out],by go_num,hid ⟨af.out,ah.out⟩⟩
   case measure=>simp[zL];omega
  ·obtain rfl:a=n:=by omega
   have aa:=hid b;clear b z A;go_wp21;go_ret2;exact⟨rfl,aa.out⟩
theorem yiq (p:Option Addr) (n cap:Nat) (w:zA):zC zF 112 #[z7 p n cap] w λe w'=>e=zo (.func (.func 150) #[] #[zf (zq ⟨w.heap.size,0,zp⟩)])/\Below w.heap.size w w'/\w'.cell? ⟨w.heap.size,0,zp⟩=zq (z7 p n cap):=by
 have b:=Boxed.new w 34 (z7 p n cap);go_enter Tryz.func112,Tryz.ntmps112;go_wp21;go_ret;exact⟨rfl,(zM _ w).alloc (zN _) _,b.cell⟩
theorem yfz (p:Option Addr) (n cap:Nat) (w:zA):zC zF 115 #[z7 p n cap] w λe w'=>e=zo (.func (.func 152) #[] #[zf (zq ⟨w.heap.size,0,zp⟩)])/\Below w.heap.size w w'/\w'.cell? ⟨w.heap.size,0,zp⟩=zq (z7 p n cap):=by
 have b:=Boxed.new w 34 (z7 p n cap);go_enter Tryz.func115,Tryz.ntmps115;go_wp21;go_ret;exact⟨rfl,(zM _ w).alloc (zN _) _,b.cell⟩
structure BndS (w:zA) (vs:Value) (b:Bool) (W:zA):Prop where
 bel:qL w W
 b0:W.cell? ⟨w.heap.size,0,zp⟩=zq vs
 r1:∃v,W.cell? ⟨w.heap.size+1,0,zp⟩=zq v
 f1:W.frozen? ⟨w.heap.size+1,0,zp⟩=zu
 r2:∃v,W.cell? ⟨w.heap.size+2,0,zp⟩=zq v
 f2:W.frozen? ⟨w.heap.size+2,0,zp⟩=zu
 r3:W.cell? ⟨w.heap.size+3,0,zp⟩=zq (zg b)
 f3:W.frozen? ⟨w.heap.size+3,0,zp⟩=zu
theorem BndS.keep {w:zA} {g:Value} {b:Bool} {c d:zA} (h:BndS w g b c) (a:CellsKept c d) (i:Below w.heap.size c d):BndS w g b d:=by
 obtain⟨j,e⟩:=h.r1;obtain⟨k,f⟩:=h.r2;exact⟨h.bel.trans i,a.cell h.b0,⟨j,a.cell e⟩,a.frozen e h.f1,⟨k,a.cell f⟩,a.frozen f h.f2,a.cell h.r3,a.frozen h.r3 h.f3⟩
theorem BndS.next {w:zA} {e:Value} {b:Bool} {a c:zA} (h:BndS w e b a) (d:qL a c):BndS w e b c:=h.keep (zac d) (d.mono h.bel.size)
theorem ze3 {w:zA} (p a:Addr) (v:Value) (h:p.block≠a.block):(w.setCell p v).cell? a=w.cell? a/\(w.setCell p v).frozen? a=w.frozen? a:=by
 have e:=yE w p v a.block (by exact λe=>h e.symm);constructor
 ·simp[World.cell?,e]
 ·simp[World.frozen?,e]
theorem BndS.set {w:zA} {g:Value} {b:Bool} {c:zA} (h:BndS w g b c) (b':Bool):BndS w g b' (c.setCell ⟨w.heap.size+3,0,zp⟩ (zg b')):=by
 obtain⟨l,j⟩:=h.r1;obtain⟨m,k⟩:=h.r2;have d:∀a,a<3->_:=λa n=>ze3 (w:=c) ⟨w.heap.size+3,0,zp⟩ ⟨w.heap.size+a,0,zp⟩ (zg b') (by show w.heap.size+3≠w.heap.size+a;omega);have i:=d 0 (by omega);have e:=d 1 (by omega);have f:=d 2 (by omega);refine⟨h.bel.setCell (by dsimp only;omega) _,i.1.trans h.b0,⟨l,e.1.trans j⟩,e.2.trans h.f1,⟨m,f.1.trans k⟩,f.2.trans h.f2,World.cell?_setCell_same' _ _ _ (by rw[h.r3];rfl),?_⟩;have:=h.f3;simpa [World.frozen?_setCell] using this
theorem BndS.start (w:zA) (a:Value):BndS w a zu ((((w.alloc (zn #[a] 34)).alloc (zn #[zg zu] 4)).alloc (zn #[zj zm 0] 29)).alloc (zn #[zg zu] 4)):=by
 have d:=Boxed.new w 34 a;have b2:=Boxed.new (w.alloc (zn #[a] 34)) 4 (zg zu);have e:=Boxed.new ((w.alloc (zn #[a] 34)).alloc (zn #[zg zu] 4)) 29 (zj zm 0);have b:=Boxed.new (((w.alloc (zn #[a] 34)).alloc (zn #[zg zu] 4)).alloc (zn #[zj zm 0] 29)) 4 (zg zu);have c1:=((d.alloc (zn #[zg zu] 4)).alloc (zn #[zj zm 0] 29)).alloc (zn #[zg zu] 4);have c2:=(b2.alloc (zn #[zj zm 0] 29)).alloc (zn #[zg zu] 4);have c:=e.alloc (zn #[zg zu] 4);simp only[World.size_alloc] at c2 c b;exact⟨((((zM _ w).alloc (zN _) _).alloc (by simp) _).alloc (by simp;omega) _).alloc (by simp;omega) _,c1.cell,⟨_,c2.cell⟩,c2.frozen,⟨_,c.cell⟩,c.frozen,b.cell,b.frozen⟩
theorem BndS.big {w:zA} {c:Value} {b:Bool} {a:zA} (h:BndS w c b a):w.heap.size+4<=a.heap.size:=by
 have:=zbe h.r3;simp at this;omega
theorem yez (x y z:List UInt8) (b:Bool) (h:(x==[48]&&(y==[48]&&z==[48]))=b) (w:zA):qJ 113 #[zh #[St x,St y,St z]] w (zg b):=by
 have:=ycp ⟨x.toArray⟩ ⟨y.toArray⟩ ⟨z.toArray⟩ w;rw[ByteArray.toList_eq,ByteArray.toList_eq,ByteArray.toList_eq] at this;simp only[] at this;rw[h] at this;exact this
theorem ycq (p:Option Addr) (cap n:Nat) (g V f:Nat->Nat->List UInt8) (P:Nat->Nat->Bool) (m:Nat->Bool) (w:zA)
 (am:m 0=zu) (R:Hid (∀k i j,(ix2 n)[k]? =zq (i,j)->m (k+1)=(m k||!P i j))) (Q:Hid (m (ix2 n).length=zt))
 (T:Hid (∀i j,(g i j==[48]&&(V i j==[48]&&f i j==[48]))=P i j))
 (U:Hid (∀a6,IterC Fence.wide 2 zF 150 #[zf (zq ⟨a6,0,zp⟩)] (λa=>qL w a/\a.cell? ⟨a6,0,zp⟩=zq (z7 p n cap)) (λt args=>∃i k,(ix2 n)[t]? =zq (i,k)/\args= #[zh #[St (g i k),St (V i k),St (f i k)],zj zm 0]) (ix2 n).length))
 (W:Hid (∀i j,i<j->j<n->P i j=zu->∀a:zA,qL w a->qJ 114 #[z7 p n cap,zh #[St (g i j),St (V i j),St (f i j)]] a (ze #[zg zt,zg zt,zj zm 0]))):
 qJ 77 #[z7 p n cap] w (ze #[zg zt,zj zm 0]):=by
 refine(callsIn_wide (n:=3)).1 ?_;refine callsIn_of_wp_marks Tryz.func77 rfl trivial ?_ rfl;simp only[Tryz.ntmps77,zZ,yA,yT,Nat.reduceAdd,Nat.reduceSub,yU,yV,yW,yX,yI,yM];have L:=BndS.start w (z7 p n cap);have u:=L.b0;obtain⟨a9,N⟩:=zzX ((((w.alloc (zn #[z7 p n cap] 34)).alloc (zn #[zg zu] 4)).alloc (zn #[zj zm 0] 29)).alloc (zn #[zg zu] 4));have a3:a9.heap.size=w.heap.size+4:=by rw[N];simp
 rw[<-N] at L;have q:=hid N.symm;have a7:=hid L;clear L N;gi_wp2_with fail;clear u;rw[q.out];clear q;refine⟨trivial,(callsIn_wide.2 (yiq p n cap a9)).mono ?_⟩;rintro J x ⟨rfl,b,l⟩;have A:=a7.next b;rw[a3] at l;have an:=hid l;clear b l a7;rw[a3];clear a3;gi_wp2_with fail
 refine z9z (n:=3) (B:=w.heap.size) rfl (by omega) rfl trivial (enters_of Tryz.func150 (by kernel_rfl) rfl) (U (w.heap.size+4)) (λk args d=>by obtain⟨i,j, -,rfl⟩:=d;rfl) A.bel.size
  (λk a=>BndS w (z7 p n cap) (m k) a/\a.cell? ⟨w.heap.size+4,0,zp⟩=zq (z7 p n cap))
  (λ_ _ _=>False)
  (λk a au d l b=>⟨d.1.keep l b,l.cell d.2⟩) (λav k a au d l b=>d) (λk a d=>⟨d.1.bel,d.2⟩) ⟨by rw[am];exact A,an.out⟩
  (λk _ Y a=>∃h i j,(ix2 n)[k]? =zq (i,j)/\w.heap.size+4<=h/\a.heap[h]? =zq (zn #[St (g i j),St (V i j),St (f i j)] 137 (0,0))/\Y=({tmps:= #[z7 p n cap,zf (zq {block:=w.heap.size,off:=0}),zf (zq {block:=w.heap.size+1,off:=0}),zf (zq {block:=w.heap.size+1+1,off:=0}),zf (zq {block:=w.heap.size+1+1+1,off:=0}),zf (zq {block:=h,off:=0}),zj zm 0,zv,zv,zv,z7 p n cap,Value.func (Fn.func 150) #[] #[zf (zq {block:=w.heap.size+4,off:=0})],zh #[St (g i j),St (V i j),St (f i j)],zj zm 0,zv,zv,zv,zv,zv,zv,zv,zv,zv,zv,zv,zv,zv,zv,zv,zv,zv,zv,zv,zv],defers:=[]}:Act))
  (λk _ Y br bs d l b=>let ⟨h,i,j,J,b3,b4,b5⟩:=d;⟨h,i,j,J,b3,l _ _ _ _ b4,b5⟩) ?assign ?body ?done ?stop
 case assign=>
  rintro a4 k args a bq bb bd ⟨c,r⟩ ba ⟨i,j,v,rfl⟩ C;have ap:=hid C;clear C;have ae:=c.big;obtain⟨X,a1⟩:=zzX (a.alloc (zn #[St (g i j),St (V i j),St (f i j)] 137));obtain⟨b2,a5⟩:=hbxU a1;have F:=hid (⟨(za0 b2).from x.heap.size,c.next b2,zai b2 r,v,ae,a5⟩:_/\_/\_/\_/\_/\_);have q:=hid a1.symm;clear c r bd v ae b2 a5 a1;gi_wp2;have b6:=q.out;rw[show a.alloc (zn #[z8 ⟨(g i j).toArray⟩,z8 ⟨(V i j).toArray⟩,z8 ⟨(f i j).toArray⟩] 137)=X from b6];obtain⟨bj,bk,bl,bm,bn,bo⟩:=F.out;exact ap _ _ bj ⟨bk,bl⟩ ⟨a.heap.size,i,j,bm,bn,bo,rfl⟩
 case body=>
  rintro a4 k args Y a bb ⟨bv,bc⟩ ⟨c,r⟩ ba b9 ⟨h,i,j,v,ag,Z,rfl⟩;have ak:=T i j;have af:=R k i j v;obtain⟨ah,ai⟩:=yk9 v;have aj:=W i j ah ai;have D:=hid (⟨c,r,Z⟩:_/\_/\_);obtain⟨G,H,I, -⟩:=zah Z;have u:=c.b0;have a8:=hid λa=>yez _ _ _ _ ak a;have ar:=hid aj;have E:=hid af;have ao:=hid ag;have aq:=hid (λ(aa X:zA) (b:qL aa X) (d:aa.heap[h]? =zq (zn #[St (g i j),St (V i j),St (f i j)] 137 (0,0)))=>zac b _ _ _ _ d);clear c r Z ak af aj v ah ai bc b9 ag U W R Q T A;generalize g i j=bg at*;generalize V i j=bh at*;generalize f i j=t at*
  generalize P i j=bp at*
  gi_wp2_with fail;clear G H I u;refine⟨trivial,(CallsIn.inRound a4 (callsIn_wide.2 (a8 a))).mono ?_⟩;rintro J y ⟨rfl,b⟩;have e:=hid (⟨D.1.next b,zai b D.2.1,aq _ _ b D.2.2,b⟩:BndS w (z7 p n cap) (m k) y/\_/\_/\Below a.heap.size a y);clear b D a8;cases bp
  ·obtain⟨O,s⟩:=zzX (y.setCell ⟨w.heap.size+3,0,zp⟩ (zg zt))
   have M:=e.1.set zt;have a0:O.heap[h]? =zq (zn #[St bg,St bh,St t] 137 (0,0)):=by
    rw[s,yE _ _ _ _ (show h≠w.heap.size+3 by have:=ao.out;omega)];exact e.2.2.1
   have ab:O.cell? ⟨w.heap.size+4,0,zp⟩=zq (z7 p n cap):=by
    rw[s,(ze3 _ _ _ (by show w.heap.size+3≠w.heap.size+4;omega)).1];exact e.2.1
   rw[<-s] at M;have z:=hid (⟨M,ab,a0,s⟩:BndS w (z7 p n cap) zt O/\_/\_/\_);obtain⟨G,H,I, -⟩:=zah a0;have u:=M.b0;rw[s] at G H I u;have aw:=e.1.r3;have z3:=e.1.f3;have q:=hid s.symm;clear M a0 ab s;gi_wp2_with fail;rw[q.out];clear G H I u aw z3 q;refine⟨trivial,(CallsIn.inRound a4 (callsIn_wide.2 (ar trivial O z.1.bel))).mono ?_⟩;rintro J al ⟨rfl,b⟩;have ad:=z.1.next b;have ac:=zai b z.2.1;have a2:=(((za0 e.2.2.2).from x.heap.size).trans ((KeepsOthers.setCell y ⟨w.heap.size+3,0,zp⟩ (zg zt)).from _));rw[<-z.2.2.2] at a2;have o:=hid (⟨a2.trans ((za0 b).from _),by rw[E.out];simpa using ad,ac⟩:KeepsFrom x.heap.size a al/\BndS w (z7 p n cap) (m (k+1)) al/\_);clear b ad ac a2 z e E;gi_wp2_with fail;exact⟨o.1,o.2.1,o.2.2⟩
  ·have o:=hid (⟨(za0 e.2.2.2).from x.heap.size,by rw[E.out];simpa using e.1,e.2.1⟩:KeepsFrom x.heap.size a y/\BndS w (z7 p n cap) (m (k+1)) y/\_)
   clear e E;gi_wp2_with fail;exact⟨o.1,o.2.1,o.2.2⟩
 case done=>
  rintro S a b7 ⟨c,r⟩ C;rw[Q.out] at c;obtain⟨bx,be⟩:=c.r1;obtain⟨bi,bf⟩:=c.r2;have bt:=c.f1;have bu:=c.f2;have bw:=c.r3;have F:=hid (⟨c,A.bel.size⟩:BndS w (z7 p n cap) zt a/\w.heap.size<=x.heap.size);clear c r A U W R Q T;gi_wp2_with fail;have b8:=(KeepsOthers.setCell a ⟨w.heap.size+1,0,zp⟩ (zg zt)).same S _ C rfl;have K:=(KeepsOthers.setCell _ ⟨w.heap.size+2,0,zp⟩ (zj zm 0)).same S _ b8 rfl;have ay:qL w ((a.setCell ⟨w.heap.size+1,0,zp⟩ (zg zt)).setCell ⟨w.heap.size+2,0,zp⟩ (zj zm 0)):=(F.1.bel.setCell (by dsimp only;omega) _).setCell (by dsimp only;omega) _;have ax:(a.setCell ⟨w.heap.size+1,0,zp⟩ (zg zt)).cell? ⟨w.heap.size+2,0,zp⟩=zq bi:=by
   rw[(ze3 _ _ _ (by show w.heap.size+1≠w.heap.size+2;omega)).1];exact bf
  have b0:((a.setCell ⟨w.heap.size+1,0,zp⟩ (zg zt)).setCell ⟨w.heap.size+2,0,zp⟩ (zj zm 0)).cell? ⟨w.heap.size+2,0,zp⟩=zq (zj zm 0):=World.cell?_setCell_same' _ _ _ (by rw[ax];rfl);have az:((a.setCell ⟨w.heap.size+1,0,zp⟩ (zg zt)).setCell ⟨w.heap.size+2,0,zp⟩ (zj zm 0)).cell? ⟨w.heap.size+1,0,zp⟩=zq (zg zt):=by
   rw[(ze3 _ _ _ (by show w.heap.size+2≠w.heap.size+1;omega)).1];exact World.cell?_setCell_same' _ _ _ (by rw[be];rfl)
  have a':=(zbk K).cell az;have b1:=(zbk K).cell b0;refine⟨by simp,.inl ⟨_,_,rfl,run_takeDeferred K,?_⟩⟩;exact⟨ze #[zg zt,zj zm 0],by simp[results,Tryz.f77,go_sem,a',b1],rfl,zby ay (by have:=F.2;omega) K⟩
 case stop=>
  rintro S av k a b7 d C;exact d.elim
def zgr (X Y Z:Nat->List UInt8) (D:Nat->Value) (i j k:Nat):Value:=zh #[St (X i),St (Y i),St (Z i),D i,St (X j),St (Y j),St (Z j),D j,St (X k),St (Y k),St (Z k),D k]
theorem yf0 (aq:Nat) (b:1<=aq) (Y:Nat) (p:Option Addr) (n cap:Nat) (bh:n<=32) (x:Hid (Enum3 n)) (X w Z:Nat->List UInt8) (D:Nat->Value) (U:∀i,∃q m c,D i=z7 q m c) (a0:zA->Prop)
 (ak:∀s,a0 s->s.cell? ⟨Y,0,zp⟩=zq (z7 p n cap)/\RowHf p n X w Z D s):
 IterC Fence.wide aq zF 152 #[zf (zq ⟨Y,0,zp⟩)] a0 (λt args=>∃i j k,(ix3 n)[t]? =zq (i,j,k)/\args= #[zgr X w Z D i j k]) (ix3 n).length:=by
 intro ap z ay s ai ah al ad;refine callsIn_of_wp Tryz.func152 rfl trivial ?_ rfl;simp only[Tryz.ntmps152,zZ,yA,yT,Nat.reduceAdd,Nat.reduceSub,yU,yV,yW,yX,yI,yM];have Q:=hid λk s a=>ak s (ai k s a);clear ak ai;have ax:=hid al;clear al;have au:=hid ah;clear ah;have P:=hid ad;clear ad;have r:=(Q _ _ P.out).1;gi_wp2_with fail;clear r;gi_loopw [8] (λi wr=>∃(k:Nat),k<=n/\i=zj zm (k:Int)/\Hid (z (cn3 n k (k+1) (k+2)) wr))
  (λi _=>n-(zL i).toNat)
 case atStart=>exact⟨0,zR _,rfl,by rw[x.start];exact P⟩
 case round=>
  clear P;obtain⟨i,f,rfl,h⟩:=hrel;by_cases hlt:i<n
  ·have b4:zm.wrap ((i:Int)+1)=((i+1:Nat):Int):=by rw[zI _ ⟨by omega,by omega⟩];omega
   gi_wp2_with fail;clear b4;gi_loopg [4] (n-(i+1)) (λm b7 wr=>∃j:Nat,i<j/\j<=n/\n-j=m/\b7=zj zm (j:Int)/\Hid (z (cn3 n i j (j+1)) wr))
   case atStart=>exact⟨i+1,by omega,by omega,rfl,by first|rfl|go_num,h⟩
   case round=>
    clear h;obtain⟨j,am,bd,bf,rfl,h⟩:=hrel;have r:=(Q _ _ h.out).1;by_cases hj:j<n
    ·have b5:zm.wrap ((j:Int)+1)=((j+1:Nat):Int):=by rw[zI _ ⟨by omega,by omega⟩];omega
     gi_wp2_with fail;clear r b5;gi_loopg [5] (n-(j+1)) (λm b8 wr=>∃k:Nat,j<k/\k<=n/\n-k=m/\b8=zj zm (k:Int)/\Hid (z (cn3 n i j k) wr))
     case atStart=>exact⟨j+1,by omega,by omega,rfl,by first|rfl|go_num,h⟩
     case round=>
      clear h;obtain⟨k,b3,be,bg,rfl,h⟩:=hrel;obtain⟨r,B⟩:=Q _ _ h.out;by_cases hk:k<n
      ·obtain⟨V,an⟩:=x.at_ i j k am b3 hk
       have aw:=hid an;obtain⟨g,l,rfl,a3,a5,a7,R⟩:=B i (by omega);obtain⟨az,b9,o,a1,a6,a8,S⟩:=B j (by omega);injection o with o;injection o with o W;subst o;subst W;obtain⟨az,b9,o,a4,b2,a9,T⟩:=B k hk;injection o with o;injection o with o W;subst o;subst W;have v:=hid λs a=>ax (cn3 n i j k) #[zgr X w Z D i j k] s a (List.getElem?_eq_some_iff.1 V).1 ⟨i,j,k,V,rfl⟩;unfold zgr at v;have af:=au _ wr wr.drew h (zM _ wr).drew;clear B V an;obtain⟨G,C,A,aa⟩:=U i;obtain⟨H,E,c1,ab⟩:=U j;obtain⟨I,F,c2,ac⟩:=U k;rw[aa] at R v;rw[ab] at S v;rw[ac] at T v;clear aa ab ac;obtain⟨fn,tmps,assign,body,bi,b1⟩:=v wr.drew af;clear v af;generalize X i=J at*;generalize w i=M at*;generalize Z i=z0 at*
       generalize X j=K at*;generalize w j=N at*;generalize Z j=z1 at*
       generalize X k=L at*;generalize w k=O at*;generalize Z k=z2 at*
       gi_wp2_with fail;refine zdr (λ_=>trivial) rfl (λ(u:Bool) b6=>([.func (.yield ap) #[] #[],z7 (zq ⟨g,l,zp⟩) n cap,zj zm (i:Int),zf (zq ⟨g,l+i*4,zp⟩),zh #[St J,St M,St z0,z7 G C A],z7 (zq ⟨g,l,zp⟩) n cap,zj zm (j:Int),zf (zq ⟨g,l+j*4,zp⟩),zh #[St K,St N,St z1,z7 H E c1],z7 (zq ⟨g,l,zp⟩) n cap,zj zm (k:Int),zf (zq ⟨g,l+k*4,zp⟩),zh #[St L,St O,St z2,z7 I F c2],zh #[St J,St M,St z0,z7 G C A,St K,St N,St z1,z7 H E c1,St L,St O,St z2,z7 I F c2],zg u,zg (!u)]:List Value)[b6]?.getD zv)
        (λu e d=>(e 14=zu->d=wr.drew)/\(e 14=zt->(u=zt/\z (cn3 n i j k+1) d)\/(u=zu/\ay d))) (by kernel_rfl) (by kernel_rfl) zt ⟨λ_=>rfl,λa=>by cases a⟩ λu=>?_
       refine za2 (.func (.yield ap) #[] #[]) (by rfl) (by rfl) (λe d a=>⟨a.1,a.2⟩) (λe d b a=>by
        obtain rfl:=a.1 (b.no (j:=14) b.self (by kernel_rfl));go_simp) ?_
       try simp only[zzQ]
       refine za2 (z7 (zq ⟨g,l,zp⟩) n cap) (by rfl) (by rfl) (λe d a=>⟨a.1,a.2⟩) (λe d b a=>by
        obtain rfl:=a.1 (b.no (j:=14) (b.no (j:=13) (b.no (j:=4) (b.no (j:=3) b.self (by kernel_rfl)) (by kernel_rfl)) (by kernel_rfl)) (by kernel_rfl));have r:wr.drew.cell? _=_:=r;go_simp) ?_
       try simp only[zzQ]
       refine za2 (zj zm (i:Int)) (by rfl) (by rfl) (λe d a=>⟨a.1,a.2⟩) (λe d b a=>by
        obtain rfl:=a.1 (b.no (j:=14) (b.no (j:=13) (b.no (j:=4) (b.no (j:=3) b.self (by kernel_rfl)) (by kernel_rfl)) (by kernel_rfl)) (by kernel_rfl));go_simp) ?_
       try simp only[zzQ]
       refine za2 (zf (zq ⟨g,l+i*4,zp⟩)) (by rfl) (by rfl) (λe d a=>⟨a.1,a.2⟩) (λe d b a=>by
        obtain rfl:=a.1 (b.no (j:=14) (b.no (j:=13) (b.no (j:=4) b.self (by kernel_rfl)) (by kernel_rfl)) (by kernel_rfl));go_simp;try(intro a;omega)) ?_
       try simp only[zzQ]
       refine za2 (zh #[St J,St M,St z0,z7 G C A]) (by rfl) (by rfl) (λe d a=>⟨a.1,a.2⟩) (λe d b a=>by
        obtain rfl:=a.1 (b.no (j:=14) (b.no (j:=13) b.self (by kernel_rfl)) (by kernel_rfl));have a3:wr.drew.cell? _=_:=a3;have a5:wr.drew.cell? _=_:=a5;have a7:wr.drew.cell? _=_:=a7;have R:wr.drew.cell? _=_:=R;go_simp) ?_
       try simp only[zzQ]
       refine za2 (z7 (zq ⟨g,l,zp⟩) n cap) (by rfl) (by rfl) (λe d a=>⟨a.1,a.2⟩) (λe d b a=>by
        obtain rfl:=a.1 (b.no (j:=14) (b.no (j:=13) (b.no (j:=8) (b.no (j:=7) b.self (by kernel_rfl)) (by kernel_rfl)) (by kernel_rfl)) (by kernel_rfl));have r:wr.drew.cell? _=_:=r;go_simp) ?_
       try simp only[zzQ]
       refine za2 (zj zm (j:Int)) (by rfl) (by rfl) (λe d a=>⟨a.1,a.2⟩) (λe d b a=>by
        obtain rfl:=a.1 (b.no (j:=14) (b.no (j:=13) (b.no (j:=8) (b.no (j:=7) b.self (by kernel_rfl)) (by kernel_rfl)) (by kernel_rfl)) (by kernel_rfl));go_simp) ?_
       try simp only[zzQ]
       refine za2 (zf (zq ⟨g,l+j*4,zp⟩)) (by rfl) (by rfl) (λe d a=>⟨a.1,a.2⟩) (λe d b a=>by
        obtain rfl:=a.1 (b.no (j:=14) (b.no (j:=13) (b.no (j:=8) b.self (by kernel_rfl)) (by kernel_rfl)) (by kernel_rfl));go_simp;try(intro a;omega)) ?_
       try simp only[zzQ]
       refine za2 (zh #[St K,St N,St z1,z7 H E c1]) (by rfl) (by rfl) (λe d a=>⟨a.1,a.2⟩) (λe d b a=>by
        obtain rfl:=a.1 (b.no (j:=14) (b.no (j:=13) b.self (by kernel_rfl)) (by kernel_rfl));have a1:wr.drew.cell? _=_:=a1;have a6:wr.drew.cell? _=_:=a6;have a8:wr.drew.cell? _=_:=a8;have S:wr.drew.cell? _=_:=S;go_simp) ?_
       try simp only[zzQ]
       refine za2 (z7 (zq ⟨g,l,zp⟩) n cap) (by rfl) (by rfl) (λe d a=>⟨a.1,a.2⟩) (λe d b a=>by
        obtain rfl:=a.1 (b.no (j:=14) (b.no (j:=13) (b.no (j:=12) (b.no (j:=11) b.self (by kernel_rfl)) (by kernel_rfl)) (by kernel_rfl)) (by kernel_rfl));have r:wr.drew.cell? _=_:=r;go_simp) ?_
       try simp only[zzQ]
       refine za2 (zj zm (k:Int)) (by rfl) (by rfl) (λe d a=>⟨a.1,a.2⟩) (λe d b a=>by
        obtain rfl:=a.1 (b.no (j:=14) (b.no (j:=13) (b.no (j:=12) (b.no (j:=11) b.self (by kernel_rfl)) (by kernel_rfl)) (by kernel_rfl)) (by kernel_rfl));go_simp) ?_
       try simp only[zzQ]
       refine za2 (zf (zq ⟨g,l+k*4,zp⟩)) (by rfl) (by rfl) (λe d a=>⟨a.1,a.2⟩) (λe d b a=>by
        obtain rfl:=a.1 (b.no (j:=14) (b.no (j:=13) (b.no (j:=12) b.self (by kernel_rfl)) (by kernel_rfl)) (by kernel_rfl));go_simp;try(intro a;omega)) ?_
       try simp only[zzQ]
       refine za2 (zh #[St L,St O,St z2,z7 I F c2]) (by rfl) (by rfl) (λe d a=>⟨a.1,a.2⟩) (λe d b a=>by
        obtain rfl:=a.1 (b.no (j:=14) (b.no (j:=13) b.self (by kernel_rfl)) (by kernel_rfl));have a4:wr.drew.cell? _=_:=a4;have b2:wr.drew.cell? _=_:=b2;have a9:wr.drew.cell? _=_:=a9;have T:wr.drew.cell? _=_:=T;go_simp) ?_
       try simp only[zzQ]
       refine za2 (zh #[St J,St M,St z0,z7 G C A,St K,St N,St z1,z7 H E c1,St L,St O,St z2,z7 I F c2]) (by rfl) (by rfl) (λe d a=>⟨a.1,a.2⟩) (λe d b a=>by
        obtain rfl:=a.1 (b.no (j:=14) b.self (by kernel_rfl));go_simp) ?_
       try simp only[zzQ]
       refine zjk (zg u) (by rfl) (by rfl) (λe d b a ba ae=>by
        obtain rfl:=a.1 b.self;go_simp;refine⟨λ_=>by omega,b1.mono ?_⟩;rintro bc a2 (⟨rfl,a'⟩|⟨rfl,b0⟩)
        ·refine⟨_,rfl,ae zt a2 (λi f=>?_) ⟨λa=>(by cases a),λ_=>.inl ⟨rfl,a'⟩⟩⟩
         match i,f with
         |0,_|1,_|2,_|3,_|4,_|5,_|6,_|7,_|8,_|9,_|10,_|11,_|12,_|13,_=>rfl
         |14,f=>rw[b.self] at f;cases f
         |15,f=>rw[b.no (j:=15) b.self (by kernel_rfl)] at f;cases f
         |_+16,_=>rfl
        ·refine⟨_,rfl,ae zu a2 (λi f=>?_) ⟨λa=>(by cases a),λ_=>.inr ⟨rfl,b0⟩⟩⟩
         match i,f with
         |0,_|1,_|2,_|3,_|4,_|5,_|6,_|7,_|8,_|9,_|10,_|11,_|12,_|13,_=>rfl
         |14,f=>rw[b.self] at f;cases f
         |15,f=>rw[b.no (j:=15) b.self (by kernel_rfl)] at f;cases f
         |_+16,_=>rfl) ?_
       try simp only[zzQ]
       refine za2 (zg !u) (by rfl) (by rfl) (λe d a=>⟨a.1,a.2⟩) (λe d b a=>by go_simp) ?_
       try simp only[zzQ]
       refine zls λe bb b a=>?_;have ao:zm.wrap ((k:Int)+1)=((k+1:Nat):Int):=by rw[zI _ ⟨by omega,by omega⟩];omega
       rcases a.2 (b 14 (by decide)) with⟨rfl,ag⟩|⟨rfl,aj⟩
       ·have ar:=hid ag;clear ag b a
        gi_wp2_with fail;go_roundg (n-(k+1))
        case rel=>exact⟨k+1,by omega,by omega,rfl,by first|rfl|go_num,by rw[aw.out];exact ar⟩
        case measure=>omega
       ·have av:=hid aj;clear aj b a
        gi_wp2_with fail;refine bodyPost_ret (results_none rfl _ _ _) rfl ?_;exact⟨⟨_,rfl⟩,.inr av.out⟩
      ·obtain rfl:k=n:=by omega
       have y:=hid (x.ek i j am hj);have ao:zm.wrap ((j:Int)+1)=((j+1:Nat):Int):=by rw[zI _ ⟨by omega,by omega⟩];omega
       gi_wp2_with fail;go_roundg (k-(j+1))
       case rel=>exact⟨j+1,by omega,by omega,rfl,by first|rfl|go_num,by rw[<-y.out];exact h⟩
       case measure=>omega
    ·obtain rfl:j=n:=by omega
     have y:=hid (x.ej i hlt);have ao:zm.wrap ((i:Int)+1)=((i+1:Nat):Int):=by rw[zI _ ⟨by omega,by omega⟩];omega
     gi_wp2_with fail;go_roundw
     case rel=>exact⟨i+1,by omega,by first|rfl|go_num,by rw[<-y.out];exact h⟩
     case measure=>simp[zL];omega
  ·have y:=hid (show cn3 n i (i+1) (i+2)=(ix3 n).length by rw[show i=n by omega];exact x.ei)
   gi_wp2_with fail;go_end0;exact⟨⟨_,rfl⟩,.inl (by rw[<-y.out];exact h.out)⟩
end
section
open Go.RowKit
def AllC (Pr:Value->Prop) (v:Value) (w:zA):Prop:=∀(g n cap:Nat) (cur:Array Value) (e:TypeId),v=z7 (zq ⟨g,0,zp⟩) n cap->w.heap[g]? =zq (zn cur e (0,0))->∀u∈cur.toList,Pr u
theorem ycr {a:Value->Prop} {w:zA}:AllC a (z7 zp 0 0) w:=λ_ _ _ _ _ b=>by cases b
theorem zgj {b:Value->Prop} {z:Array Value} (h:∀u∈z.toList,b u) (n:Nat):∀u∈(Builtin.zeroCells z n).toList,b u:=λu a=>by
 unfold Builtin.zeroCells at a;rw[Array.toList_map,List.mem_map] at a;obtain⟨e,c,rfl⟩:=a;by_cases hz:z.size=0
 ·rw[hz,Nat.mul_zero] at c;simp at c
 ·have d:e%z.size<z.size:=Nat.mod_lt _ (by omega)
  rw[getElem!_pos z _ d];exact h _ (Array.getElem_mem_toList d)
theorem zs5 {P:Program} (p:Value->Prop) (w:zA) (base:Nat) (t B e:TypeId) (i:TypeInfo) (z:Value) (l J:Nat) (H:P.underlying t=some (.slice e)) (D:P.info? e=some i) (M:i.zero=some z)
 (U:i.size=l) (T:i.bytes=J) (a8:z.cells.size=l) (a6:0<l)
 (v:Value) (n:Nat) (xs:List Value) (F:w.ownsRow base e l v n xs)
 (a:Addr) (m c:Nat) (g:List Value) (x:g.length=m*l) (E:∀j u,g[j]? =some u->w.cell? (a.add j)=some u) (O:∀u∈g,u.oneCell'=true)
 (Q:n+m<=maxLen) (L:(n+m)*J<=140737488355328) (a0:base<=w.heap.size) (a4:0<m)
 (R:AllC p v w) (K:∀u∈g,p u) (S:∀u∈z.cells.toList,p u):
 ∃o w',(Builtin.append_ #[t,t] B #[v,.slice (some a) m c]).run P w=.ok o w'/\w'.ownsRow base e l o (n+m) (xs++g)/\w.grownBy w' v.ownBlock/\AllC p o w':=by
 obtain⟨o,w',G,X,Y, -⟩:=run_append_own (P:=P) w base t B e i z l J H D M U T a8 a6 v n xs F a m c g x E O Q L a0;refine⟨o,w',G,X,Y,?_⟩;subst U;subst T
 have Z:((n+m:Nat):Int)<=9223372036854775807:=by simp only[maxLen] at Q;omega
 have N:∀(C:Array Value) (V:Nat),(∀u∈C.toList,p u)->o=.slice (some ⟨w.heap.size,0,none⟩) (n+m) V->w'=w.drew.alloc (.cells C e)->AllC p o w':=by
  rintro C V a1 rfl rfl h a9 q r W d f u b;injection d with d;injection d with d;injection d with d;subst d;have:=heap_alloc_new w.drew (.cells C e);rw[show w.drew.heap.size=w.heap.size from rfl] at this;rw[this] at f;injection f with f;injection f with f;subst f;exact a1 u b
 rcases F.2 with⟨rfl,rfl⟩|⟨h,q,r,rfl,ad,f,af,ae,a2,a7⟩
 ·have k:=run_append_nil (P:=P) w t B e i z H D M a m c g x E a4 (by omega) (by simp only[Nat.zero_add] at L;omega)
  rw[G] at k;injection k with y A;refine N _ _ (λu b=>?_) (by rw[y,Nat.zero_add]) A;rw[Array.toList_append,yC] at b;exact b.elim (K u) (zgj S _ u)
 ·by_cases hroom:n+m<=q
  ·have a3:n*i.size+g.length<=r.size:=by rw[x,a2,<-Nat.add_mul];exact Nat.mul_le_mul_right _ hroom
   have k:=run_append_room (P:=P) w t B e i H D h n q r f a m c g x E O hroom a3;rw[G] at k;injection k with y A;subst y;subst A;intro ac a9 aa ab W d s u b;injection d with d;injection d with d;injection d with d;subst d;rw[setRow_heap w h r _ e _ f] at s;injection s with s;injection s with s;subst s;have I:=R h n q r e rfl f;simp only[yC] at b;rcases b with(b|b)|b
   ·exact I u (List.mem_of_mem_take b)
   ·exact K u b
   ·exact I u (List.mem_of_mem_drop b)
  ·have a5:∀j u,xs[j]? =some u->w.cell? ((⟨h,0,none⟩:Addr).add j)=some u:=F.cells (g:=h) rfl
   have k:=run_append_grow (P:=P) w t B e i z H D M ⟨h,0,none⟩ n q xs F.1 a5 a m c g x E (by omega) Z (growslice_fits (by omega) L);rw[G] at k;injection k with y A;refine N _ _ (λu b=>?_) y A;have I:=R h n q r e rfl f;simp only[Array.toList_append,yC] at b;rcases b with(b|b)|b
   ·exact I u (by rw[<-a7] at b;exact List.mem_of_mem_take b)
   ·exact K u b
   ·exact zgj S _ u b
end
section
open Go.RowKit Go.Shelf Lib Str Limb
attribute [local go_sem] Oper.semAt_some
def putM (l:List Value) (o:Nat) (xs:List Value):List Value:=l.take o++xs++l.drop (o+xs.length)
theorem zom (s t xs:List Value) {o:Nat} (h:s.length=o):putM (s++t) o xs=s++xs++t.drop xs.length:=by
 subst h;unfold putM;rw[List.take_left,List.drop_append,Nat.add_sub_cancel_left,List.drop_eq_nil_of_le (by omega),yI]
theorem zmg {l xs:List Value} {o:Nat} (h:o+xs.length<=l.length):(putM l o xs).length=l.length:=by
 unfold putM;simp only[zU,zX,zW];omega
theorem zmh {b:Value->Prop} {l xs:List Value} {o:Nat} (d:∀u∈l,b u) (e:∀u∈xs,b u):∀u∈putM l o xs,b u:=λu c=>by
 unfold putM at c;simp only[yC] at c;rcases c with(a|a)|a
 ·exact d u (List.mem_of_mem_take a)
 ·exact e u a
 ·exact d u (List.mem_of_mem_drop a)
theorem yf1 {l f e:List Value} {a n k:Nat} (q:e.length=k) (r:l.take n=f) (v:f.length=n) (ha:a<=n) (u:n+k<=l.length):
 (putM (putM l (a+k) (f.drop a)) a e).take (n+k)=f.take a++e++f.drop a:=by
 obtain⟨d,g⟩:=zzX (f.take a);obtain⟨b,h⟩:=zzX (f.drop a);obtain⟨c,j⟩:=zzX (l.drop n);have p:l=d++(b++c):=by rw[g,h,j,<-yL,yN,<-r,yN]
 have m:d.length=a:=by rw[g,zX];omega
 have w:b.length=n-a:=by rw[h,zW];omega
 have x:k<=c.length:=by rw[j,zW];omega
 rw[<-g,<-h,p];have o:d++(b++c)=(d++(b++c).take k)++(b++c).drop k:=by rw[yL,yN]
 have i:((b++c).take k).length=k:=by rw[zX,zU];omega
 rw[o,zom _ _ _ (by rw[zU,m,i])];generalize (b++c).take k=s at i;generalize ((b++c).drop k).drop b.length=t;rw[yL,yL,zom _ _ _ m,List.drop_left' (by rw[i,q])];rw[<-yL];exact List.take_left' (by simp;omega)
theorem yf2 {l f b:List Value} {a n k:Nat} (j:b.length=k) (p:f.length=n) (ha:a<=n) (m:l.take a=f.take a) (_:n+k<=l.length):
 (putM (putM l a b) (a+k) (f.drop a)).take (n+k)=f.take a++b++f.drop a:=by
 obtain⟨d,c⟩:=zzX (f.take a);obtain⟨h,e⟩:=zzX (f.drop a);have g:d.length=a:=by rw[c,zX];omega
 have q:h.length=n-a:=by rw[e,zW];omega
 rw[<-c,<-e];have i:l=d++l.drop a:=by rw[c,<-m,yN]
 rw[i,zom _ _ _ g,zom _ _ _ (by simp[g,j])];exact List.take_left' (by simp;omega)
section
variable {P:Program}
theorem zlf (k:Nat) (w:zA) (f B C d:TypeId) (g o c i:Nat) (a:Addr) (e A:Nat) (l:List Value) (t:TypeId) (b:List Value)
 (y:P.underlying f=some (.slice d)) (h:(P.info? d).map (·.size)=some k)
 (p:w.heap[g]? =some (.cells l.toArray t (0,0))) (s:b.length=Nat.min e c*k)
 (u:∀j v,b[j]? =some v->w.cell? (a.add j)=some v) (n:o+b.length<=l.length) (m:∀v∈b,v.oneCell'=true):
 (Builtin.copy_ #[f,B] C #[.slice (some ⟨g,o,none⟩) c i,.slice (some a) e A]).run P w=
   .ok (goInt (Nat.min e c)) (w.setRow g (putM l o b).toArray):=by
 have r:=run_loadCells_list (P:=P) w a b u;have x:=run_storeCells_at P g o t b 0 l.toArray w p (by simpa using n) m
 cases hq:P.info? d with
 |none=>simp[hq] at h
 |some z=>
  have q:z.size=k:=by simpa [hq] using h
  simp[Builtin.copy_,run_underlying y,Builtin.lenOf,Builtin.firstCells,sizeOf,typeInfo,hq,q,<-s,r,x,putM]
theorem yhg {o:Oper} {a:Act} {w:zA} {b:Act->zA->Prop} {Q:Exit->Act->zA->Prop} (d c:Operand) (e f:TypeId)
 (j:o.op=.call {callee:=.builtin .copy,args:= #[d,c],argTypes:= #[e,f]}) (v u:Value) (i:a.eval d=v) (l:a.eval c=u) {g:Value} {w':zA}
 (k:(Builtin.copy_ #[e,f] o.type #[v,u]).run P w=.ok g w') (h:b (a.put o.dst g) w'):o.wp P a w b Q:=by
 unfold Oper.wp execOp;simp only[j,resolve,invoke,builtin,Sem.run_bind,Sem.run_pure,Result.andThen_ok,List.map_toArray,List.map_cons,List.map_nil,i,l,k];exact h
theorem ycu {ops:Array Oper} {o:Oper} {a:Act} {w:zA} {f:Act->zA->Prop} {Q:Exit->Act->zA->Prop} {h:Prop}
 (k:o.guard=zp) (d b:Operand) (c e:TypeId) (l:o.op=Op.call {callee:=Callee.builtin Builtin.copy,args:= #[d,b],argTypes:= #[c,e]})
 (v u:Value) (j:a.eval d=v) (n:a.eval b=u) {g:Value} {w':zA} (m:(Builtin.copy_ #[c,e] o.type #[v,u]).run P w=.ok g w') (i:f (a.put o.dst g) w'):
 if Region.wanted o (yielded ops a.tmps)=zt then Oper.wp P o a w f Q else h:=by
 rw[if_pos (show Region.wanted o (yielded ops a.tmps)=zt by simp[Region.wanted,k])];exact yhg d b c e l v u j n m i
end
theorem adM (g o j:Nat):(⟨g,o,zp⟩:Addr).add j=⟨g,o+j,zp⟩:=by unfold Addr.add;split<;>simp_all
theorem zzm {W:zA} {g:Nat} {l:List Value} {t:TypeId} (h:W.heap[g]? =zq (zn l.toArray t (0,0))) (j:Nat):W.cell? ⟨g,j,zp⟩=l[j]? :=by
 rw[zJ h];simp
def isSl (u:Value):Prop:=∃p n c,u=z7 p n c
theorem isSl.one {u:Value} (h:isSl u):u.oneCell'=zt:=by obtain⟨p,n,c,rfl⟩:=h;rfl
theorem yf3:(Tryz.prog.info? 99).map (λi=>(i.zero,i.size,i.bytes))=zq (zq (zh #[z7 zp 0 0,z7 zp 0 0,z7 zp 0 0]),3,72):=by kernel_rfl
theorem zpe:∀u∈(zh #[z7 zp 0 0,z7 zp 0 0,z7 zp 0 0]).cells.toList,isSl u:=λu a=>by
 have b:(zh #[z7 zp 0 0,z7 zp 0 0,z7 zp 0 0]).cells.toList=[z7 zp 0 0,z7 zp 0 0,z7 zp 0 0]:=by rfl
 rw[b] at a;simp only[List.mem_cons,List.not_mem_nil,or_false] at a;rcases a with rfl|rfl|rfl<;>exact⟨_,_,_,rfl⟩
theorem zwv (n:Nat):(Builtin.zeroCells (zh #[z7 zp 0 0,z7 zp 0 0,z7 zp 0 0]).cells n).size=n*3:=by rw[size_zeroCells];rfl
theorem yhh (g c n i k G:Nat) (A:i<n) (C:n<=4096) (z:c<n+1) (p:n+1<=G) (b:G<=maxLen) (x:n<=c) (w:zA) (h:Nat) (d f j:zA)
 (o:Hid (∀a,(Builtin.append_ #[81,3] a #[z7 (zq ⟨g,0,zp⟩) i c,zj zm ((n+1-i:Nat):Int)]).run zF w=.ok (z7 (zq ⟨h,0,zp⟩) (n+1) G) d))
 (l:Hid (∀a,(Builtin.copy_ #[81,81] a #[z7 (zq ⟨h,i*3,zp⟩) (n+1-i) (G-i),z7 (zq ⟨k,0,zp⟩) 1 1]).run zF d=.ok (goInt 1) f))
 (m:Hid (∀a,(Builtin.copy_ #[81,81] a #[z7 (zq ⟨h,(i+1)*3,zp⟩) (n+1-(i+1)) (G-(i+1)),z7 (zq ⟨g,i*3,zp⟩) (n-i) (c-i)]).run zF f.drew=.ok (goInt ((n-i:Nat):Int)) j)):
 zC zF 153 #[z7 (zq ⟨g,0,zp⟩) n c,zj zm (i:Int),z7 (zq ⟨k,0,zp⟩) 1 1] w λe w'=>e=zo (z7 (zq ⟨h,0,zp⟩) (n+1) G)/\w'=j:=by
 have E:zm.wrap ((n:Int)+1)=(n:Int)+1:=zI _ ⟨by omega,by omega⟩;have F:zm.wrap ((n:Int)+1-(i:Int))=((n+1-i:Nat):Int):=by rw[zI _ ⟨by omega,by omega⟩];omega
 have H:zm.wrap ((i:Int)+1)=(i:Int)+1:=zI _ ⟨by omega,by omega⟩;have I:¬((i:Int)=(n:Int)):=by omega
 have J:(c:Int)<(n:Int)+1:=by omega
 have u:(0:Int)<=(i:Int)+1:=by omega
 have B:i<=n:=by omega
 have D:((i:Int)+1).toNat=i+1:=by omega
 have s:¬(G=i):=by omega
 have t:¬(G=i+1):=by omega
 have y:¬(c=i):=by omega
 have v:(i:Int)<=(n:Int):=by omega
 have r:G<=9223372036854775807:=by unfold maxLen at b;omega
 have q:=hid (⟨p,b⟩:_/\_);clear b;have K:Tryz.prog.follows .mixedOrders=zt:=by kernel_rfl
 go_enter Tryz.func153,Tryz.ntmps153;go_wp2_with (first
  |(at_builtin;refine Lib.wpList_append_run _ rfl _ _ _ _ rfl _ _ rfl rfl _ _ (o _) ?_)
  |(simp only[l.out,Result.andThen_ok]))
 go_region_law_o (refine ycu rfl _ _ 81 81 rfl (z7 (zq ⟨h,(i+1)*3,zp⟩) (n+1-(i+1)) (G-(i+1))) (z7 (zq ⟨g,i*3,zp⟩) (n-i) (c-i)) (by simp[Act.eval,Act.put]) (by simp[Act.eval,Act.put]) (m _) ?_);go_wp2;go_ret;exact⟨rfl,rfl⟩
theorem yf4 (g c n i a:Nat) (z:i<n) (B:n<=4096) (y:n+1<=c) (h:c<=maxLen) (w d f:zA)
 (l:Hid (∀o m,(callFunc 197 #[z7 (zq ⟨a,0,zp⟩) 1 1,z7 (zq ⟨g,(i+1)*3,zp⟩) o m]).run zF w=.ok (.value (zg zu)) w))
 (j:Hid (∀b,(Builtin.copy_ #[81,81] b #[z7 (zq ⟨g,(i+1)*3,zp⟩) (n+1-(i+1)) (c-(i+1)),z7 (zq ⟨g,i*3,zp⟩) (n+1-i) (c-i)]).run zF w.drew=.ok (goInt ((n-i:Nat):Int)) d))
 (k:Hid (∀b,(Builtin.copy_ #[81,81] b #[z7 (zq ⟨g,i*3,zp⟩) (n+1-i) (c-i),z7 (zq ⟨a,0,zp⟩) 1 1]).run zF d=.ok (goInt 1) f)):
 zC zF 153 #[z7 (zq ⟨g,0,zp⟩) n c,zj zm (i:Int),z7 (zq ⟨a,0,zp⟩) 1 1] w λe w'=>e=zo (z7 (zq ⟨g,0,zp⟩) (n+1) c)/\w'=f:=by
 have E:zm.wrap ((n:Int)+1)=(n:Int)+1:=zI _ ⟨by omega,by omega⟩;have F:zm.wrap ((i:Int)+1)=(i:Int)+1:=zI _ ⟨by omega,by omega⟩;have G:¬((i:Int)=(n:Int)):=by omega
 have H:¬(c:Int)<(n:Int)+1:=by omega
 have r:(0:Int)<=(i:Int)+1:=by omega
 have q:(0:Int)<=(n:Int)+1:=by omega
 have A:i<=n:=by omega
 have C:((i:Int)+1).toNat=i+1:=by omega
 have D:((n:Int)+1).toNat=n+1:=by omega
 have v:¬(c=i):=by omega
 have x:¬(c=i+1):=by omega
 have s:(i:Int)<=(n:Int):=by omega
 have t:(i:Int)<=(n:Int)+1:=by omega
 have u:(n:Int)+1<=(c:Int):=by omega
 have p:c<=9223372036854775807:=by unfold maxLen at h;omega
 clear h;have I:Tryz.prog.follows .mixedOrders=zt:=by kernel_rfl
 go_enter Tryz.func153,Tryz.ntmps153;go_wp2_with (simp only[l.out]);go_region_law_o (refine ycu rfl _ _ 81 81 rfl (z7 (zq ⟨g,(i+1)*3,zp⟩) (n+1-(i+1)) (c-(i+1))) (z7 (zq ⟨g,i*3,zp⟩) (n+1-i) (c-i)) (by simp[Act.eval,Act.put]) (by simp[Act.eval,Act.put]) (j _) ?_);go_wp2_with (simp only[k.out,Result.andThen_ok]);go_ret;exact⟨rfl,rfl⟩
structure MarS (B:Nat) (v:Value) (n:Nat) (F:List Value) (W:zA):Prop where
 own:W.ownsRow B 99 3 v n F
 all:AllC isSl v W
theorem MarS.sl {B:Nat} {v:Value} {n:Nat} {c:List Value} {e:zA} (h:MarS B v n c e):∀u∈c,isSl u:=λu a=>by
 rcases h.own.2 with⟨-,b⟩|⟨k,i,j,b, -,f, -, -, -,g⟩
 ·have d:=h.own.1
  rw[b,Nat.zero_mul] at d;rw[List.eq_nil_of_length_eq_zero d] at a;cases a
 ·exact h.all _ _ _ _ _ b f u (by rw[<-g] at a;exact List.mem_of_mem_take a)
theorem yir (B g c n i q:Nat) (b j:List Value) (aa:b.length=n*3) (y:j.length=3) (U:∀u∈j,isSl u) (ag:i<n) (ai:n<=4096) (X:c<n+1) (w:zA)
 (A:MarS B (z7 (zq ⟨g,0,zp⟩) n c) n b w) (W:w.heap[q]? =zq (zn j.toArray 99 (0,0))) (a9:B<=w.heap.size):
 zC zF 153 #[z7 (zq ⟨g,0,zp⟩) n c,zj zm (i:Int),z7 (zq ⟨q,0,zp⟩) 1 1] w λe w'=>∃v,e=zo v/\MarS B v (n+1) (b.take (i*3)++j++b.drop (i*3)) w'/\w.grownBy w' (zq g):=by
 obtain⟨a4,Z,ak,a2,a3⟩:=info_parts yf3;have a1:(Tryz.prog.info? 99).map (·.size)=zq 3:=by rw[Z];simp[a2]
 have Y:∀o u,b[o]? =zq u->w.cell? ⟨g,o,zp⟩=zq u:=λo u k=>by
  have:=A.own.cells (g:=g) rfl o u k;rwa [adM,Nat.zero_add] at this
 have af:=(A.own.lt g rfl).2;have ae:n<=c:=by
  rcases A.own.2 with⟨e,_⟩|⟨a7,al,an,e, -, -,a8, -⟩
  ·cases e
  ·cases e;exact a8
 have H:(b.take (i*3)).length=i*3:=by rw[zX];omega
 have C:(b.drop (i*3)).length=(n-i)*3:=by rw[zW];omega
 have aj:(Builtin.firstCells a4.size i (z7 (zq ⟨g,0,zp⟩) i c)).run zF w.drew=.ok (b.take (i*3)).toArray w.drew:=by
  rw[a2];exact run_firstCells_some w.drew 3 i ⟨g,0,zp⟩ i c (b.take (i*3)) H (λo v k=>by
   rw[adM,Nat.zero_add];rw[List.getElem?_take] at k;split at k
   ·exact Y o v k
   ·cases k)
 have a0:i+(n+1-i)=n+1:=by omega
 have ad:q<w.heap.size:=(Array.getElem?_eq_some_iff.1 W).1;have G:=λz=>Lib.run_append_grow_zeros w 81 3 z 99 a4 (zh #[z7 zp 0 0,z7 zp 0 0,z7 zp 0 0]) zm zm Tryz.underlying81 Tryz.underlying3 Z ak (zq ⟨g,0,zp⟩) i c (b.take (i*3)) aj (n+1-i) (by omega) (by omega) (by omega) (by omega) (by rw[a3];omega) (by rw[a3,a0];exact growslice_fits X (by omega));simp only[a0] at G;have T:n+1<=grownCap w (n+1) c 99:=grownCap_ge w _ _ _;have S:grownCap w (n+1) c 99<=maxLen:=grownCap_le_maxLen w (n+1) c 99 (by unfold maxLen;omega);generalize grownCap w (n+1) c 99=p at*
 have I:=A.sl;obtain⟨d,D⟩:∃d:List Value,d.toArray=(b.take (i*3)).toArray++Builtin.zeroCells (zh #[z7 zp 0 0,z7 zp 0 0,z7 zp 0 0]).cells (n+1-i)++Builtin.zeroCells (zh #[z7 zp 0 0,z7 zp 0 0,z7 zp 0 0]).cells (p-(n+1)):=⟨_,Array.toArray_toList⟩;rw[<-D] at G;have V:d.length=p*3:=by
  have:=congrArg Array.size D;rw[Array.size_append,Array.size_append,zwv,zwv,zZ,zZ,H] at this;omega
 have ab:∀u∈d,isSl u:=λu h=>by
  have h:u∈d.toArray.toList:=by simpa using h
  rw[D] at h;simp only[Array.toList_append,yC] at h;rcases h with(h|h)|h
  ·exact I u (List.mem_of_mem_take h)
  ·exact zgj zpe _ u h
  ·exact zgj zpe _ u h
 have ac:d.take (i*3)=b.take (i*3):=by
  have:=congrArg Array.toList D;simp only[Array.toList_append] at this;rw[this,yL];exact List.take_left' H
 obtain⟨s,E⟩:=zzX (w.drew.alloc (zn d.toArray 99));have N:qL w s:=by rw[E];exact((zM _ w).drew).alloc (zN _) _
 have O:s.heap[w.heap.size]? =zq (zn d.toArray 99 (0,0)):=by rw[E];exact World.alloc_heap_new w.drew _
 rw[<-E] at G;clear E;obtain⟨t,F⟩:=zzX (s.setRow w.heap.size (putM d (i*3) j).toArray);have K:=λz=>zlf (P:=zF) 3 s 81 81 z 99 w.heap.size (i*3) (n+1-i) (p-i) ⟨q,0,zp⟩ 1 1 d 99 j Tryz.underlying81 a1 O
  (by rw[show Nat.min 1 (n+1-i)=1 from Nat.min_eq_left (by omega)];exact y)
  (λo v k=>by
    rw[adM,Nat.zero_add,zzm ((N.block q ad).trans W)];exact k)
  (by rw[V,y];omega) (λv m=>(U v m).one)
 simp only[show Nat.min 1 (n+1-i)=1 from Nat.min_eq_left (by omega)] at K;rw[<-F] at K;have b2:qL w t.drew:=by rw[F];exact(below_setRow N (zN _) _).drew
 have Q:t.drew.heap[w.heap.size]? =zq (zn (putM d (i*3) j).toArray 99 (0,0)):=by rw[F];exact setRow_heap _ _ _ _ _ _ O
 have M:(putM d (i*3) j).length=p*3:=by rw[zmg (by rw[y];omega)];exact V
 clear F;obtain⟨a6,J⟩:=zzX (t.drew.setRow w.heap.size (putM (putM d (i*3) j) ((i+1)*3) (b.drop (i*3))).toArray);have L:=λz=>zlf (P:=zF) 3 t.drew 81 81 z 99 w.heap.size ((i+1)*3) (n+1-(i+1)) (p-(i+1)) ⟨g,i*3,zp⟩ (n-i) (c-i) (putM d (i*3) j) 99 (b.drop (i*3)) Tryz.underlying81 a1 Q
  (by rw[show Nat.min (n-i) (n+1-(i+1))=n-i from Nat.min_eq_left (by omega)];exact C)
  (λo v k=>by
    rw[adM];rw[List.getElem?_drop] at k;have:=Y _ v k;simpa [World.cell?,b2.block g af] using this)
  (by rw[M,C];omega) (λv m=>(I v (List.mem_of_mem_drop m)).one)
 simp only[show Nat.min (n-i) (n+1-(i+1))=n-i from Nat.min_eq_left (by omega)] at L;rw[<-J] at L;refine(yhh g c n i q p ag ai X T S ae w w.heap.size s t a6 (hid G) (hid K) (hid L)).mono ?_;rintro e w' ⟨rfl,rfl⟩;have x:qL w w':=by rw[J];exact below_setRow b2 (zN _) _
 have R:w'.heap[w.heap.size]? =zq (zn (putM (putM d (i*3) j) ((i+1)*3) (b.drop (i*3))).toArray 99 (0,0)):=by rw[J];exact setRow_heap _ _ _ _ _ _ Q
 refine⟨_,rfl,⟨⟨?_,.inr ⟨w.heap.size,p,_,rfl,a9,R,T,S,?_,?_⟩⟩,?_⟩,⟨x.os,x.tape,x.output,x.size,λa5 ah _=>x.block a5 ah⟩⟩
 ·simp only[zU,H,C,y];omega
 ·rw[zZ,zmg (by rw[M,C];omega)];exact M
 ·have:=yf2 (n:=n*3) (a:=i*3) (l:=d) (k:=3) y (f:=b) aa (by omega) ac (by omega)
  rw[<-this,show(i+1)*3=i*3+3 by omega,show(n+1)*3=n*3+3 by omega]
 ·rintro a7 aq am ao ap m r u h
  injection m with m;injection m with m;injection m with m;subst m;rw[R] at r;injection r with r;injection r with r;subst r;exact zmh (zmh ab U) (λu h=>I u (List.mem_of_mem_drop h)) u (by simpa using h)
theorem yj2 (B g c n i o:Nat) (b m:List Value) (aa:b.length=n*3) (r:m.length=3) (U:∀u∈m,isSl u) (ac:i<n) (ae:n<=4096) (W:n+1<=c) (w:zA) (Z:o≠g)
 (G:MarS B (z7 (zq ⟨g,0,zp⟩) n c) n b w) (z:w.heap[o]? =zq (zn m.toArray 99 (0,0))):
 zC zF 153 #[z7 (zq ⟨g,0,zp⟩) n c,zj zm (i:Int),z7 (zq ⟨o,0,zp⟩) 1 1] w λe w'=>∃v,e=zo v/\MarS B v (n+1) (b.take (i*3)++m++b.drop (i*3)) w'/\w.grownBy w' (zq g):=by
 obtain⟨ap,ad,an,ag,ao⟩:=info_parts yf3;have a0:(Tryz.prog.info? 99).map (·.size)=zq 3:=by rw[ad];simp[ag]
 have E:(b.drop (i*3)).length=(n-i)*3:=by rw[zW];omega
 have ai:(b.take (i*3)).length=i*3:=by rw[zX];omega
 have Q:=G.sl;obtain⟨y,x,q,e,a9,L,_,V,X,a2⟩:∃y x q,z7 (zq ⟨g,0,zp⟩) n c=z7 (zq ⟨y,0,zp⟩) n x/\B<=y/\w.heap[y]? =zq (zn q 99 (0,0))/\n<=x/\x<=maxLen/\q.size=x*3/\q.toList.take (n*3)=b:=by
  rcases G.own.2 with⟨e,_⟩|a8
  ·cases e
  ·exact a8
 cases e;have Y:=G.all _ _ _ _ _ rfl L;obtain⟨d,rfl⟩:∃d:List Value,q=d.toArray:=⟨q.toList,by simp⟩;rw[zZ] at X;simp only at a2 Y;have T:d.take (n*3)=b:=by simpa using a2
 have ab:∀D u,b[D]? =zq u->d[D]? =zq u:=λD u p=>by
  rw[<-T,List.getElem?_take] at p;split at p
  ·exact p
  ·cases p
 have af:∀N H,(callFunc 197 #[z7 (zq ⟨o,0,zp⟩) 1 1,z7 (zq ⟨g,(i+1)*3,zp⟩) N H]).run zF w=.ok (.value (zg zu)) w:=λN H=>by
  rw[run_callFunc_extern Tryz.func197 (by kernel_rfl) (by kernel_rfl) (by kernel_rfl) (e:=Extern.SlicesOverlaps.overlaps #[81,81] #[4]) (by kernel_rfl),
   Lib.run_overlaps_apart w 81 4 99 Tryz.underlying81 3 (λw=>by kernel_rfl) ⟨o,0,zp⟩ ⟨g,(i+1)*3,zp⟩ 1 1 N H Z 99 99 3 d.length (by simp[World.shape?,z,r]) (by simp[World.shape?,L]) (by omega) (by simp[World.frozen?,z]) (by simp[World.frozen?,z])]
  rfl
 have I:w.drew.heap[g]? =zq (zn d.toArray 99 (0,0)):=L;have ar:w.drew.heap[o]? =zq (zn m.toArray 99 (0,0)):=z;obtain⟨k,A⟩:=zzX (w.drew.setRow g (putM d ((i+1)*3) (b.drop (i*3))).toArray);have J:=λO=>zlf (P:=zF) 3 w.drew 81 81 O 99 g ((i+1)*3) (n+1-(i+1)) (c-(i+1)) ⟨g,i*3,zp⟩ (n+1-i) (c-i) d 99 (b.drop (i*3)) Tryz.underlying81 a0 I
  (by rw[show Nat.min (n+1-i) (n+1-(i+1))=n-i from(Nat.min_eq_right (by omega)).trans (by omega)];exact E)
  (λD v p=>by
    rw[adM,zzm I];rw[List.getElem?_drop] at p;exact ab _ v p)
  (by rw[E];omega) (λv j=>(Q v (List.mem_of_mem_drop j)).one)
 simp only[show Nat.min (n+1-i) (n+1-(i+1))=n-i from(Nat.min_eq_right (by omega)).trans (by omega)] at J;rw[<-A] at J;have a3:∀h,h≠g->k.heap[h]? =w.heap[h]? :=λh t=>by rw[A];exact setRow_other _ _ _ _ t
 have z2:k.os=w.os/\k.tape=w.drew.tape/\k.output=w.output/\k.heap.size=w.heap.size:=by rw[A];exact⟨rfl,rfl,rfl,show(World.setRow w.drew g _).heap.size=w.drew.heap.size by simp[World.setRow]⟩
 have R:k.heap[g]? =zq (zn (putM d ((i+1)*3) (b.drop (i*3))).toArray 99 (0,0)):=by rw[A];exact setRow_heap _ _ _ _ _ _ I
 have aj:k.heap[o]? =zq (zn m.toArray 99 (0,0)):=by rw[a3 _ Z];exact z
 have M:(putM d ((i+1)*3) (b.drop (i*3))).length=c*3:=by rw[zmg (by rw[E];omega)];exact X
 clear A;obtain⟨a4,F⟩:=zzX (k.setRow g (putM (putM d ((i+1)*3) (b.drop (i*3))) (i*3) m).toArray);have K:=λO=>zlf (P:=zF) 3 k 81 81 O 99 g (i*3) (n+1-i) (c-i) ⟨o,0,zp⟩ 1 1 (putM d ((i+1)*3) (b.drop (i*3))) 99 m Tryz.underlying81 a0 R
  (by rw[show Nat.min 1 (n+1-i)=1 from Nat.min_eq_left (by omega)];exact r)
  (λD v p=>by
    rw[adM,Nat.zero_add,zzm aj];exact p)
  (by rw[M,r];omega) (λv j=>(U v j).one)
 simp only[show Nat.min 1 (n+1-i)=1 from Nat.min_eq_left (by omega)] at K;rw[<-F] at K;refine(yf4 g c n i o ac ae W V w k a4 (hid af) (hid J) (hid K)).mono ?_;rintro e w' ⟨rfl,rfl⟩;have S:w'.heap[g]? =zq (zn (putM (putM d ((i+1)*3) (b.drop (i*3))) (i*3) m).toArray 99 (0,0)):=by rw[F];exact setRow_heap _ _ _ _ _ _ R
 have ah:∀h,h≠g->w'.heap[h]? =w.heap[h]? :=λh t=>by rw[F];exact(setRow_other _ _ _ _ t).trans (a3 h t)
 have z3:w'.os=w.os/\w'.tape=w.tape/\w'.output=w.output/\w'.heap.size=w.heap.size:=by
  obtain⟨a1,a5,a6,a7⟩:=z2;rw[F];exact⟨a1,a5,a6,by simp[World.setRow,a7]⟩
 refine⟨_,rfl,⟨⟨?_,.inr ⟨g,c,_,rfl,a9,S,W,V,?_,?_⟩⟩,?_⟩,⟨z3.1,z3.2.1,z3.2.2.1,by rw[z3.2.2.2];exact zN _,λh _ t=>ah h (λe=>t (by rw[e]))⟩⟩
 ·simp only[zU,ai,E,r];omega
 ·rw[zZ,zmg (by rw[M,r];omega)];exact M
 ·have:=yf1 (n:=n*3) (a:=i*3) (l:=d) (k:=3) r (f:=b) T aa (by omega) (by omega)
  rw[<-this,show(i+1)*3=i*3+3 by omega,show(n+1)*3=n*3+3 by omega]
 ·rintro y aq ak al am j s u C
  injection j with j;injection j with j;injection j with j;subst j;rw[S] at s;injection s with s;injection s with s;subst s;exact zmh (zmh (λu C=>Y u (by simpa using C)) (λu C=>Q u (List.mem_of_mem_drop C))) U u (by simpa using C)
theorem zi0 {P:Program} {w:zA} {ops:Array Oper} {p:List Oper} {o:Oper} {a:Act} {Q:Exit->Act->zA->Prop} (f:Value->Prop) (J:o.guard=none) (q x:Operand) (t:TypeId)
 (O:o.op=.call {callee:=.builtin .append,args:= #[q,x],argTypes:= #[t,t]})
 (base:Nat) (e:TypeId) (i:TypeInfo) (z:Value) (b l:Nat) (W:P.underlying t=some (.slice e)) (K:P.info? e=some i) (Y:i.zero=some z)
 (U:i.size=b) (H:i.bytes=l) (Z:z.cells.size=b) (V:0<b)
 (v:Value) (n:Nat) (xs:List Value) (T:a.eval q=v) (R:w.ownsRow base e b v n xs)
 (k:Addr) (m c:Nat) (d:List Value) (X:a.eval x=.slice (some k) m c) (L:d.length=m*b) (N:∀j u,d[j]? =some u->w.cell? (k.add j)=some u) (r:∀u∈d,u.oneCell'=true)
 (B:n+m<=maxLen) (I:(n+m)*l<=140737488355328) (G:base<=w.heap.size) (M:0<m)
 (E:AllC f v w) (D:∀u∈d,f u) (F:∀u∈z.cells.toList,f u)
 (h:∀g w',w'.ownsRow base e b g (n+m) (xs++d)->w.grownBy w' v.ownBlock->AllC f g w'->wpList P ops Q p (a.put o.dst g) w'):
 wpList P ops Q (o::p) a w:=by
 refine wpList_plain J λa0 C=>?_;obtain⟨g,w',S,s,y,A⟩:=zs5 (P:=P) f w base t o.type e i z b l W K Y U H Z V v n xs R k m c d L N r B I G M E D F;unfold Oper.wp execOp;simp only[O,resolve,invoke,builtin,Sem.run_bind,Sem.run_pure,Result.andThen_ok,List.map_toArray,List.map_cons,List.map_nil,T,X,S];exact C _ _ (h g w' s y A)
theorem yj3 (B g c n i d:Nat) (a b:List Value) (h:a.length=n*3) (j:b.length=3) (k:∀u∈b,isSl u) (m:i<n) (o:n<=4096) (w:zA) (q:d≠g)
 (f:MarS B (z7 (zq ⟨g,0,zp⟩) n c) n a w) (l:w.heap[d]? =zq (zn b.toArray 99 (0,0))) (p:B<=w.heap.size):
 zC zF 153 #[z7 (zq ⟨g,0,zp⟩) n c,zj zm (i:Int),z7 (zq ⟨d,0,zp⟩) 1 1] w λe w'=>∃v,e=zo v/\MarS B v (n+1) (a.take (i*3)++b++a.drop (i*3)) w'/\w.grownBy w' (zq g):=by
 by_cases e2:n+1<=c
 ·exact yj2 B g c n i d a b h j k m o e2 w q f l
 ·exact yir B g c n i d a b h j k m o (by omega) w f l p
end
section
open Go.RowKit Go.Shelf Lib Str Limb
structure MrkP (u0 u1 u2:Value) (p:Pq) (W:zA):Prop where
 x:SdL u0 (rs p.x) W
 y:SdL u1 (rs p.y) W
 z:SdL u2 (rs p.z) W
theorem MrkP.sl {b c d:Value} {p:Pq} {e:zA} (h:MrkP b c d p e):∀u∈[b,c,d],isSl u:=λu a=>by
 simp only[List.mem_cons,List.not_mem_nil,or_false] at a;rcases a with rfl|rfl|rfl
 ·exact h.x.any
 ·exact h.y.any
 ·exact h.z.any
theorem MrkP.below {d e f:Value} {p:Pq} {b c:zA} (h:MrkP d e f p b) (a:qL b c):MrkP d e f p c:=⟨h.x.below a,h.y.below a,h.z.below a⟩
def MarL:List Value->List Pq->zA->Prop
 |[],[],_=>True
 |u0::u1::u2::F,p::l,W=>MrkP u0 u1 u2 p W/\MarL F l W
 |_,_,_=>False
theorem MarL.cons {d:List Value} {p:Pq} {l:List Pq} {e:zA} (h:MarL d (p::l) e):∃a b c R,d=a::b::c::R/\MrkP a b c p e/\MarL R l e:=by
 match d,h with
 |a::b::c::R,h=>exact⟨a,b,c,R,rfl,h.1,h.2⟩
theorem MarL.nil {F:List Value} {W:zA} (h:MarL F [] W):F=[]:=by
 rcases F with _|⟨a,_|⟨b,_|⟨c,R⟩⟩⟩
 ·rfl
 all_goals simp[MarL] at h
theorem MarL.len {c:zA}:∀{l:List Pq} {a:List Value},MarL a l c->a.length=l.length*3
 |[],a,b=>by rw[b.nil];rfl
 |f::l,a,b=>by
  obtain⟨g,h,i,e,rfl, -,d⟩:=b.cons;have:=MarL.len d;simp only[yA];omega
theorem MarL.at_ {f:zA}:∀{l:List Pq} {a:List Value} {i:Nat} {p:Pq},MarL a l f->l[i]? =zq p->∃c d e,a[i*3]? =zq c/\a[i*3+1]? =zq d/\a[i*3+2]? =zq e/\MrkP c d e p f
 |[],_,_,_,_,b=>by cases b
 |p::l,a,i,q,h,b=>by
  obtain⟨c,d,e,u,rfl,n,o⟩:=h.cons
  cases i with
  |zero=>cases b;exact⟨c,d,e,rfl,rfl,rfl,n⟩
  |succ i=>
   obtain⟨r,s,t,g,j,k,m⟩:=MarL.at_ (i:=i) o b;rw[show(i+1)*3=i*3+1+1+1 by omega];exact⟨r,s,t,g,j,k,m⟩
theorem MarL.ins {c:zA} {e f g:Value} {q:Pq} (d:MrkP e f g q c):∀{l:List Pq} {a:List Value} {i:Nat},MarL a l c->MarL (a.take (i*3)++[e,f,g]++a.drop (i*3)) (l.take i++q::l.drop i) c
 |l,a,0,b=>by simp only[Nat.zero_mul,List.take_zero,List.drop_zero,yI];exact⟨d,b⟩
 |[],a,i+1,b=>by rw[b.nil];simp only[List.take_nil,List.drop_nil,yI,List.append_nil];exact⟨d,trivial⟩
 |m::l,a,i+1,b=>by
  obtain⟨n,o,p,k,rfl,h,j⟩:=b.cons;rw[show(i+1)*3=i*3+1+1+1 by omega];exact⟨h,MarL.ins d j⟩
theorem MarL.snoc {a:zA} {c d e:Value} {q:Pq} (f:MrkP c d e q a) {l:List Pq} {b:List Value} (h:MarL b l a):MarL (b++[c,d,e]) (l++[q]) a:=by
 have:=MarL.ins f (i:=l.length) h;have g:=h.len;rw[xC (by omega),List.drop_of_length_le (by omega),xC (by omega),List.drop_of_length_le (by omega),List.append_nil] at this;exact this
theorem MarL.map {d e:zA} (k:∀v q,SdL v (rs q) d->SdL v (rs q) e):∀{l:List Pq} {a:List Value},MarL a l d->MarL a l e
 |[],a,b=>by rw[b.nil];trivial
 |h::l,a,b=>by
  obtain⟨i,j,m,g,rfl,c,f⟩:=b.cons;exact⟨⟨k _ _ c.x,k _ _ c.y,k _ _ c.z⟩,MarL.map k f⟩
theorem SdL.grown {v:Value} {l:List (Rat×Nat)} {e j:zA} {B:Nat} {m:Value} {n:Nat} {y:List Value} (h:SdL v l e) (s:MarS B m n y e) (g:e.grownBy j m.ownBlock):SdL v l j:=by
 rcases h with h|⟨b,x,o,p,q,f,t⟩
 ·exact .inl h
 ·by_cases h0:l=[]
  ·subst h0
   exact .inr ⟨b,x,o,p,q,zS f g.size,λu d i=>by simp at i⟩
  ·have E:zq b≠m.ownBlock:=by
    intro a;rcases s.own.2 with⟨c, -⟩|⟨A,G,H,c, -,r, -⟩
    ·rw[c] at a;cases a
    ·rw[c] at a
     injection a with a;have a:b=A:=a;subst a;obtain⟨d,J,rfl⟩:=List.exists_cons_of_ne_nil h0;have k:=(t 0 d rfl).1;rw[zJ r,<-Array.getElem?_toList] at k;obtain⟨I,n,F,z⟩:=s.all _ _ _ _ _ c r _ (List.mem_of_getElem? k);cases z
   have w:=g.block b f E;refine .inr ⟨b,x,o,p,q,zS f g.size,λu d i=>?_⟩;obtain⟨C,D⟩:=t u d i;constructor
   ·rw[<-C];simp[World.cell?,w]
   ·rw[<-D];simp[World.cell?,w]
theorem MrkP.grown {d e f:Value} {p:Pq} {a c:zA} {B:Nat} {m:Value} {n:Nat} {i:List Value} (h:MrkP d e f p a) (b:MarS B m n i a) (g:a.grownBy c m.ownBlock):MrkP d e f p c:=
 ⟨h.x.grown b g,h.y.grown b g,h.z.grown b g⟩
theorem MarS.below {B:Nat} {v:Value} {n:Nat} {b:List Value} {c d:zA} (h:MarS B v n b c) (e:qL c d):MarS B v n b d:=by
 refine⟨zcj (zac e) h.own,?_⟩;rintro a l f g i rfl j m k;have:=(e.block a (h.own.lt a rfl).2);rw[j] at this;exact h.all a l f g i rfl this.symm m k
def MrkR (B:Nat) (v:Value) (l:List Pq) (W:zA):Prop:=∃F,MarS B v l.length F W/\MarL F l W
theorem MrkR.nil (B:Nat) (W:zA):MrkR B (z7 zp 0 0) [] W:=⟨[],⟨⟨rfl,.inl ⟨rfl,rfl⟩⟩,ycr⟩,trivial⟩
theorem MrkR.below {B:Nat} {v:Value} {l:List Pq} {a b:zA} (h:MrkR B v l a) (c:qL a b):MrkR B v l b:=by
 obtain⟨d,e,f⟩:=h;exact⟨d,e.below c,f.map λv i g=>g.below c⟩
theorem MrkR.slice {B:Nat} {v:Value} {l:List Pq} {d:zA} (h:MrkR B v l d):∃p c,v=z7 p l.length c/\((p=zp/\l=[])\/∃g,p=zq ⟨g,0,zp⟩):=by
 obtain⟨i,f,k⟩:=h;rcases f.own.2 with⟨a,b⟩|⟨g,e,j,a, -⟩
 ·exact⟨zp,0,by rw[a,b],.inl ⟨rfl,List.length_eq_zero_iff.1 b⟩⟩
 ·exact⟨_,e,a,.inr ⟨g,rfl⟩⟩
def RowMk (p:Option Addr) (l:List Pq) (W:zA):Prop:=∀i q,l[i]? =zq q->∃b off u0 u1 u2,p=zq ⟨b,off,zp⟩/\W.cell? ⟨b,off+i*3,zp⟩=zq u0/\W.cell? ⟨b,off+i*3+1,zp⟩=zq u1/\W.cell? ⟨b,off+i*3+2,zp⟩=zq u2/\MrkP u0 u1 u2 q W
theorem RowMk.below {p:Option Addr} {l:List Pq} {b c:zA} (h:RowMk p l b) (a:qL b c):RowMk p l c:=λm o k=>by
 obtain⟨e,n,q,r,s,j,d,f,g,i⟩:=h m o k;exact⟨e,n,q,r,s,j,zai a d,zai a f,zai a g,i.below a⟩
theorem MrkR.row {B:Nat} {p:Option Addr} {n c:Nat} {l:List Pq} {e:zA} (h:MrkR B (z7 p n c) l e):RowMk p l e:=λA C d=>by
 obtain⟨j,f,t⟩:=h;obtain⟨v,w,x,k,m,o,q⟩:=t.at_ d;rcases f.own.2 with⟨-,s⟩|⟨b,y,z,r, -⟩
 ·rw[List.length_eq_zero_iff.1 s] at d;simp at d
 ·cases r
  have a:=λg i (u:j[g]? =zq i)=>by
   have:=f.own.cells (g:=b) rfl g i u;rwa [adM,Nat.zero_add] at this
  refine⟨b,0,v,w,x,rfl,?_,?_,?_,q⟩
  ·rw[Nat.zero_add];exact a _ _ k
  ·rw[Nat.zero_add];exact a _ _ m
  ·rw[Nat.zero_add];exact a _ _ o
theorem MarS.ins {B:Nat} {v j:Value} {a:List Value} {l:List Pq} {i:Nat} {e f h:Value} {q:Pq} {b c:zA} (d:MarS B v l.length a b) (m:MarL a l b) (n:MrkP e f h q b) (p:i<=l.length)
 (k:MarS B j (l.length+1) (a.take (i*3)++[e,f,h]++a.drop (i*3)) c) (g:b.grownBy c v.ownBlock):MrkR B j (l.take i++q::l.drop i) c:=by
 refine⟨_,?_,MarL.ins (n.grown d g) (m.map λv q o=>o.grown d g)⟩;rw[show(l.take i++q::l.drop i).length=l.length+1 by simp;omega];exact k
theorem MarS.snoc {B:Nat} {v i:Value} {b:List Value} {l:List Pq} {e f h:Value} {q:Pq} {a c:zA} (d:MarS B v l.length b a) (k:MarL b l a) (m:MrkP e f h q a)
 (j:MarS B i (l.length+1) (b++[e,f,h]) c) (g:a.grownBy c v.ownBlock):MrkR B i (l++[q]) c:=by
 refine⟨_,?_,MarL.snoc (m.grown d g) (k.map λv q n=>n.grown d g)⟩;rw[show(l++[q]).length=l.length+1 by simp];exact j
theorem zpj {q:Pq}:∀{l:List Pq} {i:Nat},i<=l.length->(∀p∈l.take i,ordQ p q<0)->putQ l q=l.take i++putQ (l.drop i) q
 |l,0,_,_=>by simp
 |[],i+1,a,_=>by simp at a
 |p::l,i+1,a,k=>by
  have e:=k p (by simp);have c:=zpj (q:=q) (l:=l) (i:=i) (by simpa using a) (λd b=>k d (by rw[List.take_succ_cons];exact List.mem_cons_of_mem _ b));show putQ (p::l) q=p::l.take i++putQ (l.drop i) q;rw[show putQ (p::l) q=p::putQ l q by rw[putQ,if_neg (by omega),if_neg (by omega)],c];rfl
end
section
open Go.RowKit Go.Shelf Lib Str Limb
attribute [local go_sem] Oper.semAt_some
theorem yla (a b c d e f:Value) (w:zA) (h:(∃p n k,a=z7 p n k)/\(∃p n k,b=z7 p n k)/\(∃p n k,c=z7 p n k)/\(∃p n k,d=z7 p n k)/\(∃p n k,e=z7 p n k)/\∃p n k,f=z7 p n k):
 (Instr.index 230 (zh #[a,b,c,d,e,f]) (zj zm 0)).run zF w=.ok (zh #[a,b]) w/\(Instr.index 230 (zh #[a,b,c,d,e,f]) (zj zm 1)).run zF w=.ok (zh #[c,d]) w/\(Instr.index 230 (zh #[a,b,c,d,e,f]) (zj zm 2)).run zF w=.ok (zh #[e,f]) w:=by
 obtain⟨⟨_,_,_,rfl⟩,⟨_,_,_,rfl⟩,⟨_,_,_,rfl⟩,⟨_,_,_,rfl⟩,⟨_,_,_,rfl⟩,⟨_,_,_,rfl⟩⟩:=h;exact⟨by kernel_rfl,by kernel_rfl,by kernel_rfl⟩
theorem yf5 (z A B C D E:Option Addr) (v x y s t u m n o p q r:Nat) (f c1 c2:Int) (w:zA)
 (Y:Hid (∀h:zA,qL w h->qJ 108 #[z7 z v m,z7 C s p] h (ze #[zj zm f,zj zm 0])))
 (P:Hid (∀h:zA,qL w h->qJ 108 #[z7 A x n,z7 D t q] h (ze #[zj zm c1,zj zm 0])))
 (G:Hid (∀h:zA,qL w h->qJ 108 #[z7 B y o,z7 E u r] h (ze #[zj zm c2,zj zm 0]))):
 qJ 118 #[zh #[z7 z v m,z7 A x n,z7 B y o],zh #[z7 C s p,z7 D t q,z7 E u r]] w (ze #[zj zm (if f≠0 then f else if c1≠0 then c1 else c2),zj zm 0]):=by
 generalize a6:(if f≠0 then f else if c1≠0 then c1 else c2)=M;have H:=hid a6;clear a6;obtain⟨aa,K⟩:=zzX (w.alloc (zn #[z7 z v m,z7 A x n,z7 B y o] 99));obtain⟨R,X⟩:=hbxU K;obtain⟨U,F⟩:=zzX (aa.alloc (zn #[z7 C s p,z7 D t q,z7 E u r] 99));obtain⟨S,N⟩:=hbxU F;have a9:aa.heap.size=w.heap.size+1:=by rw[K];simp
 rw[a9] at N;have O:=hid (R.trans (S.mono R.size));obtain⟨a0,a1,a2, -, -, -⟩:=zah (zac S _ _ _ _ X);obtain⟨a3,a4,a5, -, -, -⟩:=zah N;rw[K] at F;rw[F] at a0 a1 a2 a3 a4 a5;have c:=hid F.symm;clear K F R S X N a9;have L:=λw=>yla (z7 z v m) (z7 C s p) (z7 A x n) (z7 D t q) (z7 B y o) (z7 E u r) w ⟨⟨_,_,_,rfl⟩,⟨_,_,_,rfl⟩,⟨_,_,_,rfl⟩,⟨_,_,_,rfl⟩,⟨_,_,_,rfl⟩,⟨_,_,_,rfl⟩⟩;have ab:=λw=>(L w).1;have a8:=λw=>(L w).2.1;have T:=λw=>(L w).2.2;clear L;go_enter Tryz.func118,Tryz.ntmps118;go_wp21;rw[c.out];clear a0 a1 a2 a3 a4 a5 c;refine wp_loop_rounds 4 ?_;rw[rounds_succ];obtain⟨e,b⟩:=zzX (U.alloc (zn #[z7 z v m,z7 C s p] 229));obtain⟨i,d⟩:=hbxU b;have k:e.cell? ⟨U.heap.size,0,zp⟩=zq (z7 z v m):=by rw[zJ d];rfl
 have l:e.cell? ⟨U.heap.size,1,zp⟩=zq (z7 C s p):=by rw[zJ d];rfl
 have a:=hid (O.trans (i.mono O.size));have g:=hid (Y e a.out);rw[b] at k l;have c:=hid b.symm;clear b i d Y O;go_wp21;rw[c.out];clear k l c ab;refine zzM g.out λV j=>?_;have I:=hid (a.trans (j.mono a.size));clear j g a;cases h0:(f==0)
 case false=>
  have a7:f≠0:=by simpa using h0
  have Q:=hid a7;clear a7 a8 T P G;go_wp21;go_ret2;obtain rfl:f=M:=by rw[<-H.out,if_pos Q.out]
  exact⟨rfl,I.out⟩
 obtain rfl:f=0:=by simpa using h0
 clear h0;go_wp21;rw[rounds_succ];obtain⟨e,b⟩:=zzX (V.alloc (zn #[z7 A x n,z7 D t q] 229));obtain⟨i,d⟩:=hbxU b;have k:e.cell? ⟨V.heap.size,0,zp⟩=zq (z7 A x n):=by rw[zJ d];rfl
 have l:e.cell? ⟨V.heap.size,1,zp⟩=zq (z7 D t q):=by rw[zJ d];rfl
 have a:=hid (I.trans (i.mono I.size));have g:=hid (P e a.out);rw[b] at k l;have c:=hid b.symm;clear b i d P I;go_wp21;rw[c.out];clear k l c a8;refine zzM g.out λW j=>?_;have J:=hid (a.trans (j.mono a.size));clear j g a;cases h0:(c1==0)
 case false=>
  have Q:=hid (show c1≠0 by simpa using h0);clear T G;go_wp21;go_ret2;obtain rfl:c1=M:=by rw[<-H.out,if_neg (by omega),if_pos Q.out]
  exact⟨rfl,J.out⟩
 obtain rfl:c1=0:=by simpa using h0
 clear h0;go_wp21;rw[rounds_succ];obtain⟨e,b⟩:=zzX (W.alloc (zn #[z7 B y o,z7 E u r] 229));obtain⟨i,d⟩:=hbxU b;have k:e.cell? ⟨W.heap.size,0,zp⟩=zq (z7 B y o):=by rw[zJ d];rfl
 have l:e.cell? ⟨W.heap.size,1,zp⟩=zq (z7 E u r):=by rw[zJ d];rfl
 have a:=hid (J.trans (i.mono J.size));have g:=hid (G e a.out);rw[b] at k l;have c:=hid b.symm;clear b i d G J;go_wp21;rw[c.out];clear k l c T;refine zzM g.out λac j=>?_;have Z:=hid (a.trans (j.mono a.size));clear j g a;cases h0:(c2==0)
 case false=>
  go_wp21;go_ret2;obtain rfl:c2=M:=by rw[<-H.out,if_neg (by omega),if_neg (by omega)]
  exact⟨rfl,Z.out⟩
 obtain rfl:c2=0:=by simpa using h0
 clear h0;go_wp21;rw[rounds_succ];go_wp21;go_ret2;obtain rfl:0=M:=by rw[<-H.out];rfl
 exact⟨rfl,Z.out⟩
theorem zhm {w w':zA} (h:qL w w') (c:Option Nat):w.grownBy w' c:=⟨h.os,h.tape,h.output,h.size,λb a _=>h.block b a⟩
theorem yis (B:Nat) (p:Option Addr) (cap:Nat) (l:List Pq) (q:Pq) (n o s:Option Addr) (j k m f g h:Nat) (w:zA) (b6:B<=w.heap.size) (bu:l.length<=4000)
 (u:Hid (MrkR B (z7 p l.length cap) l w)) (t:Hid (MrkP (z7 n j f) (z7 o k g) (z7 s m h) q w))
 (ag:Hid (∀(i:Nat) (r:Pq),l[i]? =zq r->∀(ab:zA) (N O P:Option Addr) (K L M V c1 c2:Nat),qL w ab->MrkP (z7 N K V) (z7 O L c1) (z7 P M c2) r ab->MrkP (z7 n j f) (z7 o k g) (z7 s m h) q ab->
   qJ 118 #[zh #[z7 N K V,z7 O L c1,z7 P M c2],zh #[z7 n j f,z7 o k g,z7 s m h]] ab (ze #[zj zm (ordQ r q),zj zm 0]))):
 zC zF 117 #[z7 p l.length cap,zh #[z7 n j f,z7 o k g,z7 s m h],.func (.func 118) #[] #[]] w λe w'=>∃v,e=zo (ze #[v,zj zm 0])/\MrkR B v (putQ l q) w'/\w.grownBy w' (z7 p l.length cap).ownBlock:=by
 obtain⟨b',au⟩:=zzX (w.alloc (zn #[z7 n j f,z7 o k g,z7 s m h] 99));obtain⟨b4,ay⟩:=hbxU au;have b2:=hid ay;have a':=hid b4;have b3:=hid au.symm;have bv:l.length<=9223372036854775807:=by omega
 clear au b4 ay;go_enter Tryz.func117,Tryz.ntmps117;go_wp21;rw[b3.out];clear b3;go_loopw [14] (λi wr=>∃(a:Nat),a<=l.length/\i=zj zm (a:Int)/\Hid (qL w wr/\(wr.heap[w.heap.size]? =zq (zn #[z7 n j f,z7 o k g,z7 s m h] 99 (0,0)))/\∀r∈l.take a,ordQ r q<0))
  (λi _=>l.length-(zL i).toNat)
 case atStart=>exact⟨0,zR _,rfl,hid ⟨a'.out,b2.out,λr bh=>by simp at bh⟩⟩
 case round=>
  clear a' b2;obtain⟨a,bt,rfl,ao⟩:=hrel;obtain⟨y,ac,ad⟩:=ao.out;by_cases hlt:a<l.length
  ·obtain⟨r,ae⟩:∃r,l[a]? =zq r:=⟨_,yB hlt⟩
   have bb:=(u.below y).row;obtain⟨bx,bs,e,bk⟩:=u.slice;injection e with D E bg;subst D;subst bg;clear E;rcases bk with⟨-,a0⟩|⟨W,rfl⟩
   ·rw[a0] at hlt;simp at hlt
   obtain⟨br,bw,u0,u1,u2,e,V,c1,c2,a5⟩:=bb a r ae;injection e with e;injection e with D E;subst D;subst E;simp only[Nat.zero_add] at V c1 c2;obtain⟨N,K,al,rfl⟩:=a5.x.any;obtain⟨O,L,am,rfl⟩:=a5.y.any;obtain⟨P,M,an,rfl⟩:=a5.z.any;obtain⟨bd,c⟩:=zzX (wr.alloc (zn #[z7 N K al,z7 O L am,z7 P M an] 99));obtain⟨a1,az⟩:=hbxU c;have aa:=hid (y.trans (a1.mono y.size));have b1:=hid (ag a r ae bd N O P K L M al am an aa (a5.below a1) (t.below aa.out));have ai:=hid (zac a1 _ _ _ _ ac);obtain⟨X,Y,Z, -, -, -⟩:=zah ai.out;obtain⟨b5,D,E, -, -, -⟩:=zah az;rw[c] at X Y Z b5 D E;have R:=hid ad;have T:=hid c.symm;have ar:=hid (show ordQ r q=0\/ordQ r q<0\/0<ordQ r q by omega);have S:=hid ae;clear c a1 az y ac ad ao bb a5 ae;go_wp21;rw[show wr.alloc (zn #[z7 N K al,z7 O L am,z7 P M an] 99)=bd from T.out];clear T V c1 c2 X Y Z b5 D E;refine zzM b1.out λaw ap=>?_;have F:=qT aa ap;have b9:=hid (zac ap _ _ _ _ ai.out);clear ap b1 aa ai ag;have J:l.drop a=r::l.drop (a+1):=by
    rw[List.drop_eq_getElem_cons hlt];have:=S.out;rw[yB hlt] at this;rw[Option.some.inj this]
   have a7:putQ l q=l.take a++putQ (r::l.drop (a+1)) q:=by rw[zpj (by omega) R.out,J]
   cases a0:(ordQ r q==0)
   ·cases h1:decide (0<ordQ r q)
    ·have a6:ordQ r q<0:=by have:=of_decide_eq_false h1;have:¬ordQ r q=0:=by simpa using a0
                            omega
     have be:=hid (show ∀ax∈l.take (a+1),ordQ ax q<0 from λax C=>by
      rw[List.take_add_one,S.out] at C;rcases List.mem_append.1 C with C|C
      ·exact R ax C
      ·simp at C;rw[C];exact a6)
     clear a7 J a6 R S ar;generalize ordQ r q=bc at*
     go_wp21;go_roundw
     case rel=>exact⟨a+1,by omega,by go_num,hid ⟨F.out,b9.out,be.out⟩⟩
     case measure=>simp[zL];omega
    ·have a8:=hid (show putQ l q=l.take a++q::l.drop a by
      rw[a7,J,putQ,if_neg (by simpa using a0),if_pos (of_decide_eq_true h1)])
     obtain⟨ah,G,H⟩:=u.out;obtain⟨a9,c⟩:=zzX (aw.alloc (zn #[z7 n j f,z7 o k g,z7 s m h] 99));obtain⟨U,Q⟩:=hbxU c;have d:=F.trans (U.mono F.size);have I:=G.below d;have a4:=(G.own.lt W rfl).2;have b8:=yj3 B W cap l.length a aw.heap.size ah [z7 n j f,z7 o k g,z7 s m h] H.len rfl t.sl hlt (by omega) a9 (by have:=F.size;omega) I Q (Nat.le_trans b6 d.size);have b0:=hid b8;have b:=hid (⟨d,I,H.map λv q a=>a.below d,t.below d⟩:_/\_/\_/\_);obtain⟨X,Y,Z, -, -, -⟩:=zah b9.out;have T:=hid c.symm;clear c U Q d I a4 G H a7 J R S ar b8 u t;generalize ordQ r q=bc at*
     go_wp21;rw[show aw.alloc (zn #[z7 n j f,z7 o k g,z7 s m h] 99)=a9 from T.out];clear T X Y Z;refine b0.mono ?_;rintro e c0 ⟨v,rfl,ba,aq⟩;have A:=b.2.1.ins (v:=z7 (zq ⟨W,0,zp⟩) l.length cap) b.2.2.1 b.2.2.2 (by omega) ba aq;have a2:=(zhm b.1 (zq W)).trans aq;have x:=hid (⟨A,a2⟩:_/\_);obtain⟨bq,bf,a3, -⟩:=A.slice;generalize (l.take a++q::l.drop a).length=bp at a3;subst a3;clear ba aq A a2 b0 b;go_wp21;go_ret2;exact⟨_,rfl,by rw[a8.out];exact x.1,x.2⟩
   ·have a8:=hid (show putQ l q=l by
     rw[a7,putQ,if_pos (by simpa using a0),<-J,yN])
    have x:=hid (⟨u.below F.out,zhm F (zq W)⟩:_/\_);clear a7 J R S ar u t;generalize ordQ r q=bc at*
    go_wp21;go_ret2;exact⟨_,rfl,by rw[a8.out];exact x.1,x.2⟩
  ·have a8:=hid (show putQ l q=l++[q] by
    have bj:a=l.length:=by omega
    subst bj;rw[zpj (zN _) ad,xC (zN _),List.drop_of_length_le (zN _)];rfl)
   obtain⟨bo,bi,bl,bm,bn⟩:=info_parts yf3;obtain⟨X,Y,Z, -, -, -⟩:=zah ac;obtain⟨ah,G,H⟩:=u.out;obtain⟨a9,c⟩:=zzX (wr.alloc (zn #[z7 n j f,z7 o k g,z7 s m h] 99));obtain⟨U,Q⟩:=hbxU c;have d:=y.trans (U.mono y.size);have I:=G.below d;have b:=hid (⟨d,I,H.map λv q a=>a.below d,t.below d⟩:_/\_/\_/\_);have aj:=hid (show ∀af av,[z7 n j f,z7 o k g,z7 s m h][af]? =zq av->a9.cell? ((⟨wr.heap.size,0,zp⟩:Addr).add af)=zq av from λaf av z=>by
    rw[adM,Nat.zero_add,zJ Q]
    match af,z with
    |0,z|1,z|2,z=>exact z
    |_+3,z=>cases z)
   have ak:=hid t.sl;have b7:=hid (Nat.le_trans b6 d.size);rw[c] at b aj b7;clear c U Q d I G H y ac ad ao u t ag a9;go_wp2_with (at_builtin;refine zi0 isSl rfl _ _ 81 rfl B 99 bo (zh #[z7 zp 0 0,z7 zp 0 0,z7 zp 0 0]) 3 72 Tryz.underlying81 bi bl bm bn rfl (by decide) _ _ ah rfl b.2.1.own ⟨wr.heap.size,0,zp⟩ 1 1 [z7 n j f,z7 o k g,z7 s m h] rfl rfl aj (λv c=>(ak v c).one) (by unfold maxLen;omega) (by omega) b7 (by omega) b.2.1.all ak zpe (λbz w' a6 a4 ha=>?_));have A:=b.2.1.snoc b.2.2.1 b.2.2.2 ⟨a6,ha⟩ a4;have a2:=(zhm b.1 _).trans a4;have x:=hid (⟨A,a2⟩:_/\_);obtain⟨bq,bf,a3, -⟩:=A.slice;generalize (l++[q]).length=bp at a3;subst a3;clear a6 a4 ha A a2 b aj ak;go_wp21;go_ret2;exact⟨_,rfl,by rw[a8.out];exact x.1,x.2⟩
theorem SdL.kept {v:Value} {l:List (Rat×Nat)} {a b:zA} (h:SdL v l a) (c:CellsKept a b) (o:a.heap.size<=b.heap.size):SdL v l b:=by
 rcases h with h|⟨i,p,j,k,m,n,e⟩
 ·exact .inl h
 ·exact .inr ⟨i,p,j,k,m,zS n o,λf g d=>⟨c.cell (e f g d).1,c.cell (e f g d).2⟩⟩
theorem MrkP.kept {e f g:Value} {p:Pq} {a b:zA} (h:MrkP e f g p a) (c:CellsKept a b) (d:a.heap.size<=b.heap.size):MrkP e f g p b:=⟨h.x.kept c d,h.y.kept c d,h.z.kept c d⟩
theorem MrkR.kept {B:Nat} {v:Value} {l:List Pq} {b c:zA} (h:MrkR B v l b) (e:CellsKept b c) (m:b.heap.size<=c.heap.size):MrkR B v l c:=by
 obtain⟨g,d,j⟩:=h;refine⟨g,⟨zcj e d.own,?_⟩,j.map λv C o=>o.kept e m⟩;rintro y A q s u rfl k p n;rcases d.own.2 with⟨a, -⟩|⟨z,r,t,a, -,f, -⟩
 ·cases a
 ·injection a with a
  injection a with a;injection a with a;subst a;have:=e _ _ _ _ f;rw[k] at this;injection this with this;injection this with i w x;subst i;exact d.all _ _ _ _ _ rfl f p n
theorem SdL.setBox {v:Value} {l:List (Rat×Nat)} {a:zA} (h:SdL v l a) {g:Nat} {x:Value} {t:TypeId} (s:a.heap[g]? =zq (zn #[x] t (0,0))) (z:∀u,x≠ z8 u) (y:Value):SdL v l (a.setCell ⟨g,0,zp⟩ y):=by
 rcases h with h|⟨b,p,e,f,i,j,k⟩
 ·exact .inl h
 ·have m:a.heap.size<=(a.setCell ⟨g,0,zp⟩ y).heap.size:=by simp
  by_cases h0:l=[]
  ·subst h0
   exact .inr ⟨b,p,e,f,i,zS j m,λn t c=>by simp at c⟩
  ·have w:b≠g:=by
    rintro rfl;obtain⟨A,B,rfl⟩:=List.exists_cons_of_ne_nil h0;have d:=(k 0 A rfl).1;rw[zJ s,<-Array.getElem?_toList] at d;have:=List.mem_of_getElem? d;simp only[List.mem_cons,List.not_mem_nil,or_false] at this;exact z _ this.symm
   have o:=yE a ⟨g,0,zp⟩ y b w;refine .inr ⟨b,p,e,f,i,zS j m,λn t c=>?_⟩;obtain⟨q,r⟩:=k n t c;constructor
   ·rw[<-q];simp[World.cell?,o]
   ·rw[<-r];simp[World.cell?,o]
theorem MrkR.setBox {B:Nat} {v:Value} {l:List Pq} {a:zA} (h:MrkR B v l a) {g:Nat} {x:Value} {t:TypeId} (i:a.heap[g]? =zq (zn #[x] t (0,0))) (m:∀u,x≠ z8 u) (j:g<B) (y:Value):MrkR B v l (a.setCell ⟨g,0,zp⟩ y):=by
 obtain⟨e,b,f⟩:=h;refine⟨e,⟨ownsRow_setCell_below b.own (by exact j) y,?_⟩,f.map λv w n=>n.setBox i m y⟩;rintro c s o p q rfl d u k;have r:=(b.own.lt c rfl).1;rw[yE _ _ _ _ (show c≠g by omega)] at d;exact b.all _ _ _ _ _ rfl d u k
structure CrnS (w:zA) (vs:Value) (l:List Pq) (W:zA):Prop where
 bel:qL w W
 b0:W.cell? ⟨w.heap.size,0,zp⟩=zq vs
 r1:W.heap[w.heap.size+1]? =zq (zn #[z7 zp 0 0] 81 (0,0))
 r2:W.heap[w.heap.size+2]? =zq (zn #[zj zm 0] 29 (0,0))
 r3:∃v,W.heap[w.heap.size+3]? =zq (zn #[v] 81 (0,0))/\MrkR (w.heap.size+5) v l W
theorem CrnS.keep {w:zA} {e:Value} {l:List Pq} {b c:zA} (h:CrnS w e l b) (a:CellsKept b c) (d:Below w.heap.size b c):CrnS w e l c:=by
 obtain⟨i,f,g⟩:=h.r3;exact⟨h.bel.trans d,a.cell h.b0,a _ _ _ _ h.r1,a _ _ _ _ h.r2,i,a _ _ _ _ f,g.kept a d.size⟩
theorem CrnS.next {w:zA} {d:Value} {l:List Pq} {a b:zA} (h:CrnS w d l a) (c:qL a b):CrnS w d l b:=h.keep (zac c) (c.mono h.bel.size)
theorem CrnS.big {w:zA} {c:Value} {l:List Pq} {a:zA} (h:CrnS w c l a):w.heap.size+4<=a.heap.size:=by
 obtain⟨d,b, -⟩:=h.r3;have:=(Array.getElem?_eq_some_iff.1 b).1;omega
theorem CrnS.start (w:zA) (d:Value):CrnS w d [] ((((w.alloc (zn #[d] 34)).alloc (zn #[z7 zp 0 0] 81)).alloc (zn #[zj zm 0] 29)).alloc (zn #[z7 zp 0 0] 81)):=by
 have s:=Boxed.new w 34 d;have c1:=((s.alloc (zn #[z7 zp 0 0] 81)).alloc (zn #[zj zm 0] 29)).alloc (zn #[z7 zp 0 0] 81);obtain⟨n,a⟩:=zzX (w.alloc (zn #[d] 34));obtain⟨o,b⟩:=zzX (n.alloc (zn #[z7 zp 0 0] 81));obtain⟨p,c⟩:=zzX (o.alloc (zn #[zj zm 0] 29));obtain⟨v,f⟩:=zzX (p.alloc (zn #[z7 zp 0 0] 81));obtain⟨j, -⟩:=hbxU a;obtain⟨a1,g⟩:=hbxU b;obtain⟨k,h⟩:=hbxU c;obtain⟨e,i⟩:=hbxU f;have l:n.heap.size=w.heap.size+1:=by rw[a];simp
 have m:o.heap.size=w.heap.size+2:=by rw[b];simp[l]
 have u:p.heap.size=w.heap.size+3:=by rw[c];simp[m]
 rw[l] at g;rw[m] at h;rw[u] at i;have q:=zac e _ _ _ _ (zac k _ _ _ _ g);have r:=zac e _ _ _ _ h;have t:=((j.trans (a1.mono j.size)).trans (k.mono (by omega))).trans (e.mono (by omega));rw[<-a,<-b,<-c,<-f] at c1;rw[<-a,<-b,<-c,<-f];exact⟨t,c1.cell,q,r,_,i,MrkR.nil _ _⟩
theorem CrnS.step {w:zA} {A:Value} {l y:List Pq} {e m Z:zA} {v d:Value} (h:CrnS w A l e) (H:e.heap[w.heap.size+3]? =zq (zn #[v] 81 (0,0))) (t:MrkR (w.heap.size+5) v l e)
 (g:qL e m) (o:m.grownBy Z v.ownBlock) (J:MrkR (w.heap.size+5) d y Z) (B:Nat):
 KeepsFrom B e (Z.setCell ⟨w.heap.size+3,0,zp⟩ d)/\CrnS w A y (Z.setCell ⟨w.heap.size+3,0,zp⟩ d):=by
 have f:=h.next g;have I:=zac g _ _ _ _ H;have E:=t.below g;have G:isSl v:=by obtain⟨z,q,a, -⟩:=t.slice;exact⟨z,_,q,a⟩
 obtain⟨K,r,O⟩:=E;have s:∀c,v.ownBlock=zq c->w.heap.size+5<=c:=λc a=>(r.own.lt c a).1;have F:∀b,b<w.heap.size+4->zq b≠v.ownBlock:=λb j a=>by have:=s b a.symm;omega
 have Q:=f.big;have k:∀b,b<w.heap.size+4->Z.heap[b]? =m.heap[b]? :=λb j=>o.block b (by omega) (F b j);have x:Z.heap[w.heap.size+3]? =zq (zn #[v] 81 (0,0)):=(k _ (by omega)).trans I;have n:=λp (P:p<3)=>yE Z ⟨w.heap.size+3,0,zp⟩ d (w.heap.size+p) (by show w.heap.size+p≠w.heap.size+3;omega);refine⟨?_,?_,?_,?_,?_,?_⟩
 ·refine((za0 g).from B).trans (((KeepsOthers.of_grownBy o ?_).from B).trans ((KeepsOthers.setCell _ _ _).from B))
  intro c S a u;rcases r.own.2 with⟨rfl,_⟩|⟨N,L,M,rfl,_,D,_⟩
  ·simp[Value.ownBlock] at a
  ·simp[Value.ownBlock] at a;subst a;rw[D] at u;cases u;rfl
 ·exact(f.bel.grown o (by omega) (λc a=>by have:=s c a;omega)).setCell (by dsimp only;omega) _
 ·have a:=(n 0 (by omega)).trans (k _ (by omega))
  have j:=f.b0;rw[show w.heap.size+0=w.heap.size from rfl] at a;rw[<-j];simp[World.cell?,a]
 ·exact((n 1 (by omega)).trans (k _ (by omega))).trans f.r1
 ·exact((n 2 (by omega)).trans (k _ (by omega))).trans f.r2
 ·exact⟨d,Go.Joins.block_setCell (i:=0) x d,J.setBox x (λT a=>by obtain⟨z,R,q,C⟩:=G;rw[C] at a;cases a) (by omega) d⟩
def zm0 (q:Rat):Prop:=digs q.num<=9/\(zD q.den).length<=9
theorem z5o (q:Rat):(denS q).length<=9↔(zD q.den).length<=9:=by
 unfold denS;split
 ·rename_i h
  rw[h];have:(zD 1).length=1:=by decide+kernel
  simp[this]
 ·exact Iff.rfl
theorem yad (q:Rat) (h:okN q) (f:¬zm0 q) (w:zA):
 qJ 10 #[St (numS q)] w (ze #[zj zm 0,zj zm 0,zg zu]):=by
 have e:=z1x q h w;have n:(zD q.num.natAbs).length<=300:=h.1;have o:(denS q).length<=300:=by unfold denS;split;exact zR _;exact h.2
 have k:9<(zD q.num.natAbs).length\/((zD q.num.natAbs).length<=9/\9<(denS q).length):=by
  have:=z5o q;by_cases a:(zD q.num.natAbs).length<=9
  ·right
   refine⟨a,?_⟩;rcases Nat.lt_or_ge 9 (denS q).length with b|b
   ·exact b
   ·exact absurd ⟨a,this.1 b⟩ f
  ·left;omega
 have g:=hid e;clear e h f;generalize zD q.num.natAbs=c at*
 generalize denS q=i at*
 generalize numS q=r at*
 generalize decide (q.num<0)=p at*
 generalize decide (q.den≠1)=l at*
 go_enter Tryz.func10,Tryz.ntmps10;go_wp21;refine zzM g.out λs d=>?_;rcases k with a|⟨a,b⟩
 ·have j:(9:Int)<c.length:=by omega
  go_wp21;go_ret3;exact⟨rfl,d⟩
 ·have j:¬(9:Int)<c.length:=by omega
  have m:(9:Int)<i.length:=by omega
  go_wp21;go_ret3;exact⟨rfl,d⟩
theorem zrh (q:Rat) (h:okN q) (l:zm0 q) (w:zA):
 qJ 10 #[St (numS q)] w (ze #[zj zm q.num,zj zm (q.den:Int),zg zt]):=by
 have z:=z1x q h w;have D:(zD q.num.natAbs).length<=9:=l.1;have B:(denS q).length<=9:=(z5o q).2 l.2;have t:=λm=>zrk (zD q.num.natAbs) (zan _) (by omega) m;have u:=λm=>zrk (zD q.den) (zan _) (by have:=l.2;omega) m;rw[zb2] at t u;have k:q.num.natAbs<1000000000:=(zaf _ 9 (by omega)).1 l.1;have A:q.den≠1->denS q=zD q.den:=λC=>by unfold denS;rw[if_neg C]
 have a:=hid z;have j:=hid t;have x:=hid u;have i:=hid A;obtain⟨c,ha⟩:=zzX q.num.natAbs;rw[<-ha] at a j D k;have G:¬(9:Int)<(zD c).length:=by omega
 have y:¬(9:Int)<(denS q).length:=by omega
 clear z h l t u A;generalize zD c=F at*
 generalize numS q=H at*
 by_cases hm:q.num<0<;>by_cases h1:q.den=1
 ·rw[decide_eq_true hm,decide_eq_false (by simpa using h1)] at a
  have hw:zm.wrap (-(c:Int))=q.num:=by rw[show-(c:Int)=q.num by omega];exact zI _ (by omega)
  rw[h1];clear hm ha i k;generalize q.num=s at*
  generalize denS q=o at*
  generalize q.den=d at*
  generalize zD d=n at*
  go_enter Tryz.func10,Tryz.ntmps10;go_wp21;refine zzM a.out λb e=>?_;go_wp21;refine zzM (j b) λv f=>?_;have g:=f.symm;subst g;go_wp21;go_ret3;exact⟨rfl,e⟩
 ·rw[decide_eq_true hm,decide_eq_true (by simpa using h1)] at a
  have hw:zm.wrap (-(c:Int))=q.num:=by rw[show-(c:Int)=q.num by omega];exact zI _ (by omega)
  rw[i h1] at a y B;clear hm ha i k;generalize q.num=s at*
  generalize denS q=o at*
  generalize q.den=d at*
  generalize zD d=n at*
  go_enter Tryz.func10,Tryz.ntmps10;go_wp21;refine zzM a.out λb e=>?_;go_wp21;refine zzM (j b) λv f=>?_;have g:=f.symm;subst g;go_wp21;refine zzM (x b) λE p=>?_;have r:=p.symm;subst r;go_wp21;go_ret3;exact⟨rfl,e⟩
 ·rw[decide_eq_false hm,decide_eq_false (by simpa using h1)] at a
  have hw:(q.num:Int)=(c:Int):=by omega
  rw[hw];rw[h1];clear hm ha i k hw;generalize q.num=s at*
  generalize denS q=o at*
  generalize q.den=d at*
  generalize zD d=n at*
  go_enter Tryz.func10,Tryz.ntmps10;go_wp21;refine zzM a.out λb e=>?_;go_wp21;refine zzM (j b) λv f=>?_;have g:=f.symm;subst g;go_wp21;go_ret3;exact⟨rfl,e⟩
 ·rw[decide_eq_false hm,decide_eq_true (by simpa using h1)] at a
  have hw:(q.num:Int)=(c:Int):=by omega
  rw[hw];rw[i h1] at a y B;clear hm ha i k hw;generalize q.num=s at*
  generalize denS q=o at*
  generalize q.den=d at*
  generalize zD d=n at*
  go_enter Tryz.func10,Tryz.ntmps10;go_wp21;refine zzM a.out λb e=>?_;go_wp21;refine zzM (j b) λv f=>?_;have g:=f.symm;subst g;go_wp21;refine zzM (x b) λE p=>?_;have r:=p.symm;subst r;go_wp21;go_ret3;exact⟨rfl,e⟩
theorem zct (a b c d:Int) (ha:digs a<=300) (j:digs b<=300) (m:digs c<=300) (o:digs d<=300) (i:digs (a*b)<=300) (n:digs (c*d)<=300) (w:zA) (hw:Wd w):
 qJ 12 #[St (zE a),St (zE b),St (zE c),St (zE d)] w (ze #[St (zE (a*b)),St (zE (c*d)),zj zm 0]):=by
 have c1:=λe f=>z26 a b ha j i e f;have c2:=λe f=>z26 c d m o n e f;have h:=hid hw;have p:=hid c1;have q:=hid c2;clear c1 c2 hw ha j m o i n;generalize zE (a*b)=z at*
 generalize zE (c*d)=A at*
 generalize zE a=t at*
 generalize zE b=u at*
 generalize zE c=v at*
 generalize zE d=x at*
 go_enter Tryz.func12,Tryz.ntmps12;go_wp21;refine zzM (p w h.out) λs k=>?_;have g:=hid k;clear k;go_wp21;refine zzM (q s (h.below g.out)) λy l=>?_;have r:=qT g l;clear l;go_wp21;go_ret3;exact⟨rfl,r.out⟩
theorem zgv (q:Rat) (h:okN q) (w:zA) (hw:Wd w):
 qJ 24 #[St (numS q)] w (zj zm 0):=by
 refine(zt5 (numS q) (z8i h) w hw).mono ?_;rintro c e ⟨d,rfl,b,a⟩;rw[b.2 ⟨q,rfl,h⟩];exact⟨rfl,a⟩
theorem zrs (q r:Rat) (g:okN q) (h:okN r) (w:zA) (hw:Wd w):
 qJ 9 #[St (numS q),St (numS r)] w (zj zm 0):=by
 have c1:=λa b=>zgv q g a b;have c2:=λa b=>zgv r h a b;generalize numS q=n at*
 generalize numS r=o at*
 have i:=hid c1;have j:=hid c2;have d:=hid hw;clear c1 c2 g h hw;go_enter Tryz.func9,Tryz.ntmps9;go_wp21;refine zzM (i w d.out) λl e=>?_;have c:=hid e;clear e;go_wp21;refine zzM (j l (d.below c.out)) λm f=>?_;have k:=qT c f;clear f;go_wp21;go_ret;exact⟨rfl,k.out⟩
theorem zp6 (z:Int) (a:ByteArray) (e:a=⟨(zE z).toArray⟩):∃h:0<a.size,(((a[0]'h).toNat:Int)==45)=decide (z<0)/\(z<0->a.extract 1 a.size=⟨(zD z.natAbs).toArray⟩):=by
 obtain⟨f,b2⟩:=zds (zE z) a e;have d:0<(zE z).length:=zS (zbn z) (zbr z);have h:0<a.size:=by omega
 refine⟨h,?_,?_⟩
 ·rw[b2 0 d h]
  rcases zbg z with⟨c,b⟩|⟨c,b⟩
  ·rw[decide_eq_false (by omega),beq_eq_false_iff_ne]
   have g:=zan z.natAbs ((zE z)[0]'d) (by simp only[b];exact List.getElem_mem _);omega
  ·rw[decide_eq_true c,beq_iff_eq]
   simp only[b];rfl
 ·intro c
  rcases zbg z with⟨i,b⟩|⟨_,b⟩
  ·omega
  ·rw[e,zel,b];rfl
end
section
open Go.RowKit Go.Shelf Lib Str Limb
theorem ziy (q:Rat) (c:ByteArray) (a:c=⟨(numS q).toArray⟩):∃h:0<c.size,(((c[0]'h).toNat:Int)==45)=decide (q<0):=by
 obtain⟨f,d, -⟩:=zp6 q.num ⟨(zE q.num).toArray⟩ rfl;have e:decide (q.num<0)=decide (q<0):=by
  rw[decide_eq_decide];exact⟨λh=>Rat.not_le.1 λb=>by have:=Rat.num_nonneg.2 b;omega,λh=>Int.not_le.1 λb=>by have:=Rat.num_nonneg.1 b;grind⟩
 by_cases h:q.den=1
 ·rw[zmu h] at a
  subst a;exact⟨f,by rw[d,e]⟩
 ·rw[zid h] at a
  subst a;refine⟨by show 0<(zE q.num++_).toArray.size;simp;omega,?_⟩;rw[<-e,<-d];congr 1;show(((zE q.num++47::zD q.den).toArray[0]'_).toNat:Int)=(((zE q.num).toArray[0]'_).toNat:Int);congr 2;simp only[List.getElem_toArray];exact List.getElem_append_left _
end
end Go.Proofs.YtjmljcdbjakefaaGreatDoor
