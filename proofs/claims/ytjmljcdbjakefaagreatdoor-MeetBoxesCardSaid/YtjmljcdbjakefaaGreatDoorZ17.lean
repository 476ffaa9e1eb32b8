/- law -/
import Derived.Test.YtjmljcdbjakefaaGreatDoorZ15
import Derived.LaidByTextLater
set_option maxRecDepth 100000
set_option maxHeartbeats 8000000
open Go.Value renaming slice → z7, string → z8, tuple → ze, pointer → zf, bool → zg, agg → zh, int → zj
open Go.IntKind renaming i64 → zm
open Go.Obj renaming cells → zn
open Go.Ending renaming returned → zo
open Option renaming none → zp, some → zq
open Bool renaming true → zt, false → zu
open Go renaming undef → zv, World → zA, Calls → zC
open Go.RowKit renaming Below → zB, intOf → zL
open Go.Proofs.Tryz renaming prog → zF
open Go.World renaming alloc_heap_new → zG
open Go.Joins renaming cell_of_block → zJ, block_setCell → zK
open Go.RowKit.Below renaming refl → zM, heap_setCell → yE
open Nat renaming le_refl → zN, le_trans → zO, zero_le → zR
open List renaming getElem?_eq_getElem → yB, append_toArray → yX
open Array renaming replicate_succ → yU, replicate_zero → yV
open Int renaming natAbs_natCast → yY
open Go.Lib renaming decDigits → zD, itoa → zE
open Go.IntWalk renaming i64_in → zI
namespace Go.Proofs.YtjmljcdbjakefaaGreatDoor
section
open Go.RowKit Go.Shelf Lib Str Limb
attribute [local go_sem] Oper.semAt_some
section
variable {β:Type} {P:Program} {ops:Array Oper} {vs:β->Nat->Value} {C:β->(Nat->Bool)->zA->Prop} {K:Act->zA->Prop} {k:Nat} {o:Oper} {rest:List Oper} {a:Act} {b:β}
theorem zcq (c:vs b k=zv) (hw:Region.wanted o (yielded ops a.tmps)=zu) (e:∀f w,C b f w->C b (λj=>if k=j then zt else f j) w) (h:AcLB P ops vs C K b (k+1) rest (a.put o.dst zv)):AcLB P ops vs C K b k (o::rest) a:=by
 refine⟨λf w g d=>?_,by rw[c];exact h⟩;rw[if_neg (by rw[hw];simp)];exact⟨b,λ_ _=>rfl,c,e f w d⟩
end
theorem yh3 (o:Option Nat):(if o.isSome=zt then zq (o.getD 0) else zp)=o:=by cases o<;>rfl
theorem zn2 {m:List (Nat×Nat)} {first b f n:Nat} {a:List Nat}:zk8 m first b (f+1) a (zq n)=if n≠first/\a.length<b then zk8 m first b f (a++[n]) (m.lookup n) else a:=rfl
theorem FcS.mono {d a:zA} {G B n i:Nat} {C:Nat->List Nat} {v:Value} (h:FcS d G B n i C v a) {B':Nat} (b:B<=B') (l:B'<=a.heap.size):FcS d G B' n i C v a:=by
 obtain⟨j,k,a1,e,f,g⟩:=h.blk;exact⟨h.bel,h.lo,Nat.lt_of_lt_of_le h.lt b,l,j,k,a1,e,f,λo m=>(g o m).imp λp c=>⟨c.1,c.2.mono b⟩⟩
theorem MapN.setCell {m:List (Nat×Nat)} {b:Nat} {a:zA} (h:MapN m b a) {p:Addr} (f:b≠p.block) (u:Value):MapN m b (a.setCell p u):=by
 obtain⟨g,c,d,e⟩:=h;exact⟨g,c,d.setCell f u,e⟩
def FcE (w0:zA) (G n k:Nat) (C:Nat->List Nat) (W:zA):Prop:=(k<n->∃B,FcS w0 G B n k C (z7 zp 0 0) W)/\(k=n->RowOn (zq ⟨G,0,zp⟩) n C W)/\zB w0.heap.size w0 W
theorem FcS.stepped {d a:zA} {G B n k:Nat} {C:Nat->List Nat} {v:Value} (h:FcS d G B n k C v a) (c:IntG G a.heap.size v (C k) a):FcE d G n (k+1) C a:=⟨λb=>⟨_,h.next c b⟩,λb=>h.all c b,h.bel⟩
theorem ygi (an:Option Addr) (cap n:Nat) (d0:n<=32) (bp:0<n) (ag:List Pq) (t:Nat->List Nat) (X:Nat->Bool) (W:Nat->List (Nat×Nat)) (j:Nat->List Nat) (w:zA)
 (bk:Hid (∀k,k<n->(t k).length<=4000/\∀x∈t k,x<2^60))
 (cc:Hid (∀k x y,(W k).lookup x=zq y->y<2^60))
 (b':Hid (∀k,k<n->X k=zt\/(t k).length<3->j k=[]))
 (bz:Hid (∀k,k<n->X k=zu->3<=(t k).length->∀first,(t k)[0]? =zq first->j k=zk8 (W k) first (t k).length (t k).length [first] ((W k).lookup first)))
 (b7:Hid (zC zF 97 #[z7 an n cap] w λe w'=>∃P Z S E,e=zo (ze #[z7 P ag.length Z,z7 S n E,zj zm 0])/\zB w.heap.size w w'/\RowMk P ag w'/\RowOn S n t w'))
 (c3:Hid (∀k,k<n->∀v:zA,qL w v->qJ 129 #[z7 an n cap,zj zm (k:Int)] v (ze #[zg (X k),zj zm 0])))
 (bx:Hid (∀k,k<n->X k=zu->3<=(t k).length->∀(v:zA) (P S:Option Addr) (Z E:Nat),qL w v->RowMk P ag v->RowOn S n t v->
   zC zF 130 #[z7 an n cap,zj zm (k:Int),z7 P ag.length Z,z7 S n E] v λe w'=>e=zo (ze #[.map (zq v.heap.size),zj zm 0])/\zB v.heap.size v w'/\MapN (W k) v.heap.size w')):
 zC zF 88 #[z7 an n cap] w λe w'=>∃G,e=zo (ze #[z7 (zq ⟨G,0,zp⟩) n n,zj zm 0])/\zB w.heap.size w w'/\RowOn (zq ⟨G,0,zp⟩) n j w':=by
 obtain⟨bv,bn,bs,bt,bu⟩:=info_parts zdv;go_enter Tryz.func88,Tryz.ntmps88;go_wp21;refine b7.mono ?_;rintro e h ⟨P,Z,S,E,rfl,bm,bi,bl⟩;have B:=hid (⟨bm,bi,bl⟩:_/\_/\_);have cl:=ygh h n (by omega);have b8:=hid (show FcE h h.heap.size n 0 j (h.alloc (zn (Array.replicate n (z7 zp 0 0)) 74)) from⟨λ_=>⟨_,FcS.start h bp j⟩,λb=>by omega,(FcS.start h bp j).bel⟩);clear bm bi bl b7;go_wp21;clear cl;go_loopw [29] (λb5 wr=>∃(k:Nat),k<=n/\b5=zj zm (k:Int)/\Hid (FcE h h.heap.size n k j wr))
  (λb5 _=>n-(zL b5).toNat)
 case atStart=>exact⟨0,zR _,rfl,b8⟩
 case round=>
  clear b8;obtain⟨k,cw,rfl,a2⟩:=hrel;by_cases hlt:k<n
  ·obtain⟨cr,az⟩:=a2.1 hlt
   have au:=hid az;have b9:=hid (c3 k hlt wr (B.1.trans (az.bel.mono B.1.size)));have ch:decide ((k:Int)<n)=zt:=decide_eq_true (by omega);clear az a2;go_wp21;refine zzM b9.out λU cf=>?_;have r:=hid (au.below (cf.mono au.sz));clear b9 au ch;have aq:=hid (b' k hlt);have ab:=hid (bz k hlt);have aa:=hid (bx k hlt);have cu:=(bk k hlt).1;have cd:=hid (bk k hlt).2;have bj:=hid (cc k);obtain⟨D,H,d7,c7,a9,bq⟩:=B.2.2 k hlt;have aj:=zai r.bel a9;have b4:=bq.below r.bel;have a9:=hid a9;clear bq;subst c7;obtain⟨d6,ai,rfl⟩:=b4.slice;have af:=hid b4;generalize d5:t k=g at*
   generalize a4:j k=bh at*
   generalize X k=co at*
   generalize W k=A at*
   clear b4;cases co
   ·by_cases h3:g.length<3
    ·have ar:=hid (aq (.inr h3))
     have s:=hid (r.stepped (.inl ⟨rfl,a4.trans ar.out⟩));clear ab aa af;have ca:(g.length:Int)<3:=by omega
     go_wp21;go_roundw
     case rel=>exact⟨k+1,by omega,by go_num,s⟩
     case measure=>simp[zL];omega
    ·have ca:¬((g.length:Int)<3):=by omega
     obtain⟨first,al⟩:∃x,g[0]? =zq x:=⟨_,yB (by omega)⟩;have cv:=cd first (List.mem_of_getElem? al);have ba:=hid (ab rfl (by omega) first al);have bb:=hid (aa rfl (by omega) U P (zq ⟨D,H,zp⟩) Z E (B.1.trans (r.bel.mono B.1.size)) (B.2.1.below r.bel) (B.2.2.below r.bel));rcases af.out with⟨-,c8⟩|⟨ah,cs,ax,ci,br⟩
     ·subst c8;simp at h3
     injection ax with ax c9 cb;subst ax;subst cb;have C:=hid aj;have bd:=hid (br 0 first al);clear aq ab aa br c9 af al ci;go_wp21;refine bb.mono ?_;rintro e m ⟨rfl,a3,z⟩;have bc:=hid z;have a6:=z.lt;have ct:h.heap.size<U.heap.size:=by have:=r.lt;have:=r.sz;omega
     have ae:=hid ((r.below (a3.mono r.sz)).mono (B':=m.heap.size) (by have:=r.sz;have:=a3.size;omega) (zN _));have c4:=hid (zai a3 C.out);have aj:=c4.out;have c6:=zai a3 bd.out;obtain⟨bw,b2⟩:=zzX (zp:Option Addr);obtain⟨F,am⟩:=zzX (0:Nat);have av:=hid (show m.ownsRow m.heap.size 3 1 (z7 bw F F) F (natV []) from by rw[b2,am];exact⟨rfl,.inl ⟨rfl,rfl⟩⟩);have bf:m.cell? ⟨h.heap.size,k,zp⟩=zq (z7 bw F F):=by rw[b2,am];exact ae.cell.1
     have bg:=ae.cell.2;have c0:=hid am;have cz:F<=0:=by omega
     clear b2 am;clear a3 z bb r C bd;go_wp2_with (at_builtin;refine wpList_append_own_at _ rfl _ _ 74 rfl m.heap.size 3 bv (zj zm 0) 1 8 Tryz.underlying74 bn bs bt bu rfl (by decide) _ _ (natV []) rfl (av.alloc _) ⟨m.heap.size,0,zp⟩ 1 1 [zj zm (first:Int)] rfl rfl (zep _ _ _) (zfn _) (by unfold maxLen;simp;omega) (by omega) (by simp) ?_;intro cq w' N a5 b0 b1;obtain⟨J,I,rfl, -, -⟩:=zgk N (by omega);have M:qL m w':=((zM _ _).alloc (by omega) _).grown a5 (by simp) (λT e=>(av.lt T e).1);have V:=hid (ae.below M);have ad:=hid (V.put (z7 (zq ⟨J,0,zp⟩) (F+1) I));have Q:=hid ((bc.below M a6).setCell (p:=⟨h.heap.size,k,zp⟩) (by show U.heap.size≠h.heap.size;omega) (z7 (zq ⟨J,0,zp⟩) (F+1) I));have ac:=hid (ownsRow_setCell_below N (a:=⟨h.heap.size,k,zp⟩) (by show h.heap.size<m.heap.size;omega) (z7 (zq ⟨J,0,zp⟩) (F+1) I));have bo:=Q.look (k:=first) (by omega);obtain⟨c1,c5⟩:=V.cell;clear N a5 b0 b1 M);obtain rfl:=c0.out;clear av ae bc bf bg aj c6;have cy:=bj first;have ck:=a6;clear a6;have ay:h.heap.size<m.heap.size:=by omega
     go_loopg [13,14] (g.length) (λcm cp cn b6=>∃(f:List Nat) (i:Nat) (Y:Bool),g.length-f.length<=cm/\cp=zj zm (i:Int)/\cn=zg Y/\Hid (1<=f.length/\f.length<=g.length/\bh=zk8 A first g.length (g.length+1-f.length) f (if Y=zt then zq i else zp)/\(Y=zt->i<2^60))/\Hid (∃T be,FcS h h.heap.size m.heap.size n k j (z7 T f.length be) b6/\b6.ownsRow m.heap.size 3 1 (z7 T f.length be) f.length (natV f)/\MapN A U.heap.size b6))
     case atStart=>exact⟨[first],(A.lookup first).getD 0,(A.lookup first).isSome,by simp,rfl,rfl,hid ⟨by simp,by simp;omega,by rw[yh3,ba.out];rfl,λce=>by rcases h9:A.lookup first with _|y<;>simp_all⟩,hid ⟨_,_,ad.out,ac.out,Q.out⟩⟩
     case round=>
      clear ad Q ac bo ba;obtain⟨f,i,Y,c',rfl,rfl,a0,a1⟩:=hrel;obtain⟨d3,d4,ak,cj⟩:=a0.out;obtain⟨ap,ao,q,K,z⟩:=a1.out;have R:=hid q.cell.1;have C:=hid (zai q.bel a9.out);have b3:=trivial;cases Y
      ·go_wp21
       refine zc4 (λ(_:Unit) O=>([zg zu,zg zu,zv,zv,zv,zg zu,zg zu,zv,zv,zv,zv,zv,zv,zv,zv,zv,zv,zv,zg zu]:List Value)[O]?.getD zv) (λ(_:Unit) _ L=>qL wr L) (by kernel_rfl) (by kernel_rfl) () (zM _ wr).drew λ_=>?_;refine qB (zg zu) (λc d b=>b) ?_;refine qB (zg zu) (λc d b=>b) ?_;simp only[zzQ];refine zcq (by rfl) (by rfl) (λc d b=>b) ?_
       try simp only[zzQ]
       refine zcq (by rfl) (by rfl) (λc d b=>b) ?_
       try simp only[zzQ]
       refine zcq (by rfl) (by rfl) (λc d b=>b) ?_
       refine qB (zg zu) (λc d b=>b) ?_;refine qB (zg zu) (λc d b=>b) ?_;simp only[zzQ];refine zcq (by rfl) (by rfl) (λc d b=>b) ?_
       try simp only[zzQ]
       refine zcq (by rfl) (by rfl) (λc d b=>b) ?_
       try simp only[zzQ]
       refine zcq (by rfl) (by rfl) (λc d b=>b) ?_
       try simp only[zzQ]
       refine zcq (by rfl) (by rfl) (λc d b=>b) ?_
       try simp only[zzQ]
       refine zcq (by rfl) (by rfl) (λc d b=>b) ?_
       try simp only[zzQ]
       refine zcq (by rfl) (by rfl) (λc d b=>b) ?_
       try simp only[zzQ]
       refine zcq (by rfl) (by rfl) (λc d b=>b) ?_
       try simp only[zzQ]
       refine zcq (by rfl) (by rfl) (λc d b=>b) ?_
       try simp only[zzQ]
       refine zcq (by rfl) (by rfl) (λc d b=>b) ?_
       try simp only[zzQ]
       refine zcq (by rfl) (by rfl) (λc d b=>b) ?_
       try simp only[zzQ]
       refine zcq (by rfl) (by rfl) (λc d b=>b) ?_
       refine qB (zg zu) (λc d b=>b) ?_;simp only[zzQ];refine ze1 λc a8 l b=>?_;have o:=hid (q.below (b.mono q.sz));have u:=hid (zcj (zac b) K);have a7:j k=f:=by
        rw[a4,ak,show g.length+1-f.length=(g.length-f.length)+1 by omega];rfl
       have s:=hid (o.stepped (show IntG _ _ _ (j k) _ by rw[a7];exact IntG.own u ay));clear l b o u R C q K z a0 a1 b3;go_wp21;go_roundw
       case rel=>exact⟨k+1,by omega,by go_num,s⟩
       case measure=>simp[zL];omega
      ·by_cases hne:i=first
       ·subst hne
        go_wp21;refine zc4 (λ(_:Unit) O=>([zg zt,zg zt,zj zm (i:Int),zj zm (i:Int),zg zu,zg zu,zg zu,zv,zv,zv,zv,zv,zv,zv,zv,zv,zv,zv,zg zu]:List Value)[O]?.getD zv) (λ(_:Unit) _ L=>qL wr L) (by kernel_rfl) (by kernel_rfl) () (zM _ wr).drew λ_=>?_;refine qB (zg zt) (λc d b=>b) ?_;refine qB (zg zt) (λc d b=>b) ?_;refine qB (zj zm (i:Int)) (λc d b=>b) ?_;simp only[zzQ];refine qB (zj zm (i:Int)) (λc d b=>b) ?_;refine qB (zg zu) (λc d b=>b) ?_;refine qB (zg zu) (λc d b=>b) ?_;simp only[zzQ];refine qB (zg zu) (λc d b=>b) ?_;simp only[zzQ];refine zcq (by rfl) (by rfl) (λc d b=>b) ?_
        try simp only[zzQ]
        refine zcq (by rfl) (by rfl) (λc d b=>b) ?_
        try simp only[zzQ]
        refine zcq (by rfl) (by rfl) (λc d b=>b) ?_
        try simp only[zzQ]
        refine zcq (by rfl) (by rfl) (λc d b=>b) ?_
        try simp only[zzQ]
        refine zcq (by rfl) (by rfl) (λc d b=>b) ?_
        try simp only[zzQ]
        refine zcq (by rfl) (by rfl) (λc d b=>b) ?_
        try simp only[zzQ]
        refine zcq (by rfl) (by rfl) (λc d b=>b) ?_
        try simp only[zzQ]
        refine zcq (by rfl) (by rfl) (λc d b=>b) ?_
        try simp only[zzQ]
        refine zcq (by rfl) (by rfl) (λc d b=>b) ?_
        try simp only[zzQ]
        refine zcq (by rfl) (by rfl) (λc d b=>b) ?_
        try simp only[zzQ]
        refine zcq (by rfl) (by rfl) (λc d b=>b) ?_
        refine qB (zg zu) (λc d b=>b) ?_;simp only[zzQ];refine ze1 λc a8 l b=>?_;have o:=hid (q.below (b.mono q.sz));have u:=hid (zcj (zac b) K);have a7:j k=f:=by
         rw[a4,ak,show g.length+1-f.length=(g.length-f.length)+1 by omega];rw[if_pos trivial,zn2,if_neg (λa'=>a'.1 rfl)]
        have s:=hid (o.stepped (show IntG _ _ _ (j k) _ by rw[a7];exact IntG.own u ay));clear l b o u R C q K z a0 a1 b3;go_wp21;go_roundw
        case rel=>exact⟨k+1,by omega,by go_num,s⟩
        case measure=>simp[zL];omega
       have d1:¬((i:Int)=(first:Int)):=by omega
       by_cases hlo:f.length<g.length
       ·go_wp21
        refine zc4 (λ(_:Unit) O=>([zg zt,zg zt,zj zm (i:Int),zj zm (first:Int),zg zt,zg zt,zg zt,z7 (zq ⟨h.heap.size,0,zp⟩) n n,zj zm (k:Int),zf (zq ⟨h.heap.size,k,zp⟩),z7 ap f.length ao,zj zm (f.length:Int),z7 (zq ⟨D,H,zp⟩) n E,zj zm (k:Int),zf (zq ⟨D,H+k,zp⟩),z7 (zq ⟨ah,0,zp⟩) g.length ai,zj zm (g.length:Int),zg zt,zg zt]:List Value)[O]?.getD zv) (λ(_:Unit) _ L=>qL wr L) (by kernel_rfl) (by kernel_rfl) () (zM _ wr).drew λ_=>?_;refine qB (zg zt) (λc d b=>b) ?_;refine qB (zg zt) (λc d b=>b) ?_;refine qB (zj zm (i:Int)) (λc d b=>b) ?_;simp only[zzQ];refine qB (zj zm (first:Int)) (λc d b=>b) ?_;refine qB (zg zt) (λc d b=>b) ?_;refine qB (zg zt) (λc d b=>b) ?_;simp only[zzQ];refine qB (zg zt) (λc d b=>b) ?_;refine qB (z7 (zq ⟨h.heap.size,0,zp⟩) n n) (λc d b=>b) ?_;refine qB (zj zm (k:Int)) (λc d b=>b) ?_;simp only[zzQ];refine qB (zf (zq ⟨h.heap.size,k,zp⟩)) (λc d b=>b) ?_ (hy:=λc d l b=>by go_simp;try(intro b;omega));refine qB (z7 ap f.length ao) (λc d b=>b) ?_ (hy:=λc d l b=>by have aw:=zai b R.out;go_simp);refine qB (zj zm (f.length:Int)) (λc d b=>b) ?_;simp only[zzQ];refine qB (z7 (zq ⟨D,H,zp⟩) n E) (λc d b=>b) ?_;refine qB (zj zm (k:Int)) (λc d b=>b) ?_;refine qB (zf (zq ⟨D,H+k,zp⟩)) (λc d b=>b) ?_ (hy:=λc d l b=>by go_simp;try(intro b;omega));simp only[zzQ];refine qB (z7 (zq ⟨ah,0,zp⟩) g.length ai) (λc d b=>b) ?_ (hy:=λc d l b=>by have aw:=zai b C.out;go_simp);refine qB (zj zm (g.length:Int)) (λc d b=>b) ?_;refine qB (zg zt) (λc d b=>b) ?_;simp only[zzQ];refine qB (zg zt) (λc d b=>b) ?_;simp only[zzQ];refine ze1 λc a8 l b=>?_;have o:=hid (q.below (b.mono q.sz));have u:=hid (zcj (zac b) K);have c2:=hid (z.below b z.lt);have cg:bh=zk8 A first g.length (g.length+1-(f.length+1)) (f++[i]) (A.lookup i):=by
         rw[ak,show g.length+1-f.length=(g.length-f.length)+1 by omega,show g.length+1-(f.length+1)=g.length-f.length by omega,if_pos trivial,zn2,if_pos ⟨hne,hlo⟩]
        have cx:=bj i;have d2:i<2^60:=cj trivial;have a6:U.heap.size<m.heap.size:=ck;obtain⟨bf,bg⟩:=o.cell;clear l b R C q K z a0 a1;go_wp2_with (at_builtin;refine wpList_append_own_at _ rfl _ _ 74 rfl m.heap.size 3 bv (zj zm 0) 1 8 Tryz.underlying74 bn bs bt bu rfl (by decide) _ _ (natV f) rfl (u.alloc _) ⟨a8.heap.size,0,zp⟩ 1 1 [zj zm (i:Int)] rfl rfl (zep _ _ _) (zfn _) (by unfold maxLen;simp;omega) (by omega) (by have:=o.sz;simp;omega) ?_;intro cq w' N a5 b0 b1;obtain⟨J,I,rfl, -, -⟩:=zgk N (by omega);have M:zB m.heap.size a8 w':=((zM _ _).alloc (by have:=o.sz;omega) _).grown a5 (by have:=o.sz;simp;omega) (λT e=>(u.lt T e).1);have V:=hid (o.below M);have ad:=hid (V.put (z7 (zq ⟨J,0,zp⟩) (f.length+1) I));have Q:=hid ((c2.below M a6).setCell (p:=⟨h.heap.size,k,zp⟩) (by show U.heap.size≠h.heap.size;omega) (z7 (zq ⟨J,0,zp⟩) (f.length+1) I));have ac:=hid (ownsRow_setCell_below N (a:=⟨h.heap.size,k,zp⟩) (by show h.heap.size<m.heap.size;omega) (z7 (zq ⟨J,0,zp⟩) (f.length+1) I));have bo:=Q.look (k:=i) (by omega);obtain⟨c1,c5⟩:=V.cell;clear N a5 b0 b1 M);go_roundg (g.length-(f.length+1))
        case rel=>exact⟨f++[i],(A.lookup i).getD 0,(A.lookup i).isSome,by simp,rfl,rfl,hid ⟨by simp,by simp;omega,by rw[List.length_append,yh3];exact cg,λce=>by rcases h9:A.lookup i with _|y<;>simp_all⟩,hid ⟨zq ⟨J,0,zp⟩,I,by simpa using ad.out,by have:=ac.out;simpa [natV] using this,Q.out⟩⟩
        case measure=>omega
       ·go_wp21
        refine zc4 (λ(_:Unit) O=>([zg zt,zg zt,zj zm (i:Int),zj zm (first:Int),zg zt,zg zt,zg zt,z7 (zq ⟨h.heap.size,0,zp⟩) n n,zj zm (k:Int),zf (zq ⟨h.heap.size,k,zp⟩),z7 ap f.length ao,zj zm (f.length:Int),z7 (zq ⟨D,H,zp⟩) n E,zj zm (k:Int),zf (zq ⟨D,H+k,zp⟩),z7 (zq ⟨ah,0,zp⟩) g.length ai,zj zm (g.length:Int),zg zu,zg zu]:List Value)[O]?.getD zv) (λ(_:Unit) _ L=>qL wr L) (by kernel_rfl) (by kernel_rfl) () (zM _ wr).drew λ_=>?_;refine qB (zg zt) (λc d b=>b) ?_;refine qB (zg zt) (λc d b=>b) ?_;refine qB (zj zm (i:Int)) (λc d b=>b) ?_;simp only[zzQ];refine qB (zj zm (first:Int)) (λc d b=>b) ?_;refine qB (zg zt) (λc d b=>b) ?_;refine qB (zg zt) (λc d b=>b) ?_;simp only[zzQ];refine qB (zg zt) (λc d b=>b) ?_;refine qB (z7 (zq ⟨h.heap.size,0,zp⟩) n n) (λc d b=>b) ?_;refine qB (zj zm (k:Int)) (λc d b=>b) ?_;simp only[zzQ];refine qB (zf (zq ⟨h.heap.size,k,zp⟩)) (λc d b=>b) ?_ (hy:=λc d l b=>by go_simp;try(intro b;omega));refine qB (z7 ap f.length ao) (λc d b=>b) ?_ (hy:=λc d l b=>by have aw:=zai b R.out;go_simp);refine qB (zj zm (f.length:Int)) (λc d b=>b) ?_;simp only[zzQ];refine qB (z7 (zq ⟨D,H,zp⟩) n E) (λc d b=>b) ?_
        refine qB (zj zm (k:Int)) (λc d b=>b) ?_;refine qB (zf (zq ⟨D,H+k,zp⟩)) (λc d b=>b) ?_ (hy:=λc d l b=>by go_simp;try(intro b;omega));simp only[zzQ];refine qB (z7 (zq ⟨ah,0,zp⟩) g.length ai) (λc d b=>b) ?_ (hy:=λc d l b=>by have aw:=zai b C.out;go_simp);refine qB (zj zm (g.length:Int)) (λc d b=>b) ?_;refine qB (zg zu) (λc d b=>b) ?_;simp only[zzQ];refine qB (zg zu) (λc d b=>b) ?_;simp only[zzQ];refine ze1 λc a8 l b=>?_;have o:=hid (q.below (b.mono q.sz));have u:=hid (zcj (zac b) K);have a7:j k=f:=by
         rw[a4,ak,show g.length+1-f.length=(g.length-f.length)+1 by omega];rw[if_pos trivial,zn2,if_neg (λa'=>hlo a'.2)]
        have s:=hid (o.stepped (show IntG _ _ _ (j k) _ by rw[a7];exact IntG.own u ay));clear l b o u R C q K z a0 a1 b3;go_wp21;go_roundw
        case rel=>exact⟨k+1,by omega,by go_num,s⟩
        case measure=>simp[zL];omega
   ·have ar:=hid (aq (.inl rfl))
    have s:=hid (r.stepped (.inl ⟨rfl,a4.trans ar.out⟩));clear ab aa af aj;go_wp21;go_roundw
    case rel=>exact⟨k+1,by omega,by go_num,s⟩
    case measure=>simp[zL];omega
  ·obtain rfl:k=n:=by omega
   have s:=hid (⟨B.1.trans (a2.2.2.mono B.1.size),a2.2.1 rfl⟩:_/\_);clear a2;go_wp21;go_ret2;exact⟨_,rfl,s.1,s.2⟩
end
section
open Go.RowKit Go.Shelf Lib Str Limb Geo
attribute [local go_sem] Oper.semAt_some
theorem z4q (p q:Rat) (i:okN p) (j:okN q) (k:zm0 p) (l:zm0 q) (w:zA) (hw:Wd w):
 qJ 4 #[St (numS p),St (numS q)] w (ze #[zj zm (cmpR p q),zj zm 0]):=by
 rw[<-zim];have m:=λb D=>zrs p q i j b D;have c1:=λb=>zrh p i k b;have c2:=λb=>zrh q j l b;obtain⟨z,b2⟩:=z3g k;obtain⟨A,B⟩:=z3g l;have E:(p.num*q.den).natAbs<=999999998000000001:=by
  rw[Int.natAbs_mul,yY];exact Nat.mul_le_mul (show p.num.natAbs<=999999999 by omega) (show q.den<=999999999 by omega)
 have F:(q.num*p.den).natAbs<=999999998000000001:=by
  rw[Int.natAbs_mul,yY];exact Nat.mul_le_mul (show q.num.natAbs<=999999999 by omega) (show p.den<=999999999 by omega)
 have I:zm.wrap (p.num*q.den)=p.num*q.den:=IntWalk.i64_in _ (by omega);have J:zm.wrap (q.num*p.den)=q.num*p.den:=IntWalk.i64_in _ (by omega);have g:=hid (show(p.num*q.den<q.num*p.den->cmpZ (p.num*q.den) (q.num*p.den)= -1)/\(q.num*p.den<p.num*q.den->cmpZ (p.num*q.den) (q.num*p.den)=1)/\(p.num*q.den=q.num*p.den->cmpZ (p.num*q.den) (q.num*p.den)=0) by
  unfold cmpZ;refine⟨λa=>?_,λa=>?_,λa=>?_⟩
  ·simp[a]
  ·have:¬p.num*q.den<q.num*p.den:=by omega
   simp[this,a]
  ·rw[a];simp)
 have s:=hid m;have t:=hid c1;have u:=hid c2;have y:=hid hw;clear m c1 c2 k l i j z b2 A B E F hw;generalize cmpZ (p.num*q.den) (q.num*p.den)=N at*
 generalize numS p=L at*
 generalize numS q=M at*
 generalize p.num=c at*
 generalize q.num=d at*
 generalize p.den=e at*
 generalize q.den=f at*
 go_enter Tryz.func4,Tryz.ntmps4;go_wp21;refine zzM (s w y.out) λG n=>?_;have v:=hid n;clear n;go_wp21;refine zzM (t G) λH o=>?_;have x:=qT v o;clear o;go_wp21;refine zzM (u H) λO r=>?_;have h:=qT x r;clear r;rcases Int.lt_trichotomy (c*f) (d*e) with a|a|a
 ·obtain rfl:=g.1 a
  go_wp21;go_ret2;exact⟨rfl,h.out⟩
 ·obtain rfl:=g.2.2 a
  have C:¬c*f<d*e:=by omega
  have K:¬d*e<c*f:=by omega
  clear a;go_wp21;go_ret2;exact⟨rfl,h.out⟩
 ·obtain rfl:=g.2.1 a
  have C:¬c*f<d*e:=by omega
  go_wp21;go_ret2;exact⟨rfl,h.out⟩
theorem z5p (p q:Rat) (i j:Nat) (S:0<i) (T:0<j) (a5:i+j<=300) (d:sz p i) (e:sz q j) (B:¬(zm0 p/\zm0 q)) (w:zA) (hw:Wd w):
 qJ 4 #[St (numS p),St (numS q)] w (ze #[zj zm (cmpR p q),zj zm 0]):=by
 rw[<-zim];have b:=zoo S (by omega) d;have c:=zoo T (by omega) e;have n:=λa h=>zrs p q b c a h;have c1:=λa=>z0y p b a;have c2:=λa=>z0y q c a;have o:=λa=>zre p b a;have r:=λa=>zre q c a;have g:∀k:Nat,digs (k:Int)=(decDigits k).length:=λk=>by unfold digs;rw[yY]
 have a0:digs (p.num*q.den)<=i+j:=z1j (by omega) d.1 (by rw[yY];exact e.2);have a1:digs (q.num*p.den)<=i+j:=by rw[Nat.add_comm];exact z1j (by omega) e.1 (by rw[yY];exact d.2)
 have f:=λa h=>zct p.num (q.den:Int) q.num (p.den:Int) b.1 (by rw[g];exact c.2) c.1 (by rw[g];exact b.2) (by omega) (by omega) a h;have s:=λa=>z5h (p.num*q.den) (q.num*p.den) (by omega) (by omega) a;rw[Str.zad,Str.zad] at f;have R:(decide (zm0 p)=zu)\/(decide (zm0 p)=zt/\decide (zm0 q)=zu):=by
  by_cases h1:zm0 p
  ·right;exact⟨decide_eq_true h1,decide_eq_false (λQ=>B ⟨h1,Q⟩)⟩
  ·left;exact decide_eq_false h1
 have C:=hid n;have D:=hid c1;have E:=hid c2;have F:=hid o;have G:=hid r;have H:=hid f;have I:=hid s;have m:=hid hw;clear n c1 c2 o r f s hw b c g a0 a1 d e B;generalize cmpZ (p.num*q.den) (q.num*p.den)=aa at*
 generalize itoa (p.num*q.den)=a6 at*
 generalize itoa (q.num*p.den)=a7 at*
 generalize numS p=ab at*
 generalize numS q=ac at*
 generalize itoa p.num=a8 at*
 generalize itoa q.num=a9 at*
 generalize decDigits p.den=a3 at*
 generalize decDigits q.den=a4 at*
 generalize decide (zm0 p)=a2 at*
 generalize decide (zm0 q)=b2 at*
 go_enter Tryz.func4,Tryz.ntmps4;go_wp21;refine zzM (C w m.out) λU t=>?_;have J:=hid t;clear t;go_wp21;refine(D U).mono ?_;rintro P V ⟨⟨ae,af,rfl⟩,u⟩;have K:=qT J u;clear u;go_wp21;refine(E V).mono ?_;rintro P W ⟨⟨ag,ah,rfl⟩,v⟩;have L:=qT K v;clear v;rcases R with rfl|⟨rfl,rfl⟩<;>(
  go_wp21;refine zzM (F W) λX x=>?_;have M:=qT L x;clear x;go_wp21;refine zzM (G X) λY y=>?_;have l:=qT M y;clear y;go_wp21;refine zzM (H Y (m.below l.out)) λZ z=>?_;have N:=qT l z;clear z;go_wp21;refine zzM (I Z) λad A=>?_;have O:=qT N A;clear A;go_wp21;go_ret2;exact⟨rfl,O.out⟩)
theorem z2a (p q:Rat) (i j:Nat) (a:0<i) (b:0<j) (e:i+j<=300) (c:sz p i) (d:sz q j) (w:zA) (hw:Wd w):
 qJ 4 #[St (numS p),St (numS q)] w (ze #[zj zm (cmpR p q),zj zm 0]):=by
 by_cases h:zm0 p/\zm0 q
 ·exact z4q p q (zoo a (by omega) c) (zoo b (by omega) d) h.1 h.2 w hw
 ·exact z5p p q i j a b e c d h w hw
theorem box2 {w y:zA} {a b:Array Value} {c t:TypeId} (hy:y=(w.alloc (zn a c)).alloc (zn b t)):qL w y/\y.heap[w.heap.size]? =zq (zn a c (0,0))/\y.heap[w.heap.size+1]? =zq (zn b t (0,0)):=by
 refine⟨by rw[hy];exact((zM _ w).alloc (zN _) _).alloc (by simp) _,by rw[hy];exact(Below.heap_alloc _ _ _ (by simp)).trans (zG w _),?_⟩;rw[hy];have:=zG (w.alloc (zn a c)) (zn b t);rw[World.size_alloc] at this;exact this
theorem zdn {w y:zA} {a:Array Value} {t:TypeId} (hy:y=w.alloc (zn a t)):qL w y/\y.heap[w.heap.size]? =zq (zn a t (0,0)):=by
 rw[hy];exact⟨(zM _ w).alloc (zN _) _,zG w _⟩
theorem zhq {W:zA} {A:Nat} {a b c d:Value} {t:TypeId} (h:W.heap[A]? =zq (zn #[a,b,c,d] t (0,0))):W.cell? ⟨A,0,zp⟩=zq a/\W.cell? ⟨A,1,zp⟩=zq b/\W.cell? ⟨A,2,zp⟩=zq c/\W.cell? ⟨A,3,zp⟩=zq d:=
 ⟨by rw[zJ h];rfl,by rw[zJ h];rfl,by rw[zJ h];rfl,by rw[zJ h];rfl⟩
theorem ydj (a b c g b' h x y z:List UInt8) (p:Bool) (s:Hid ((x==[48]&&y==[48]&&z==[48])=p))
 (E:Hid (qK 70 #[zh #[St a,St b,St c],zh #[St g,St b',St h]] (ze #[zh #[St x,St y,St z],zj zm 0])))
 (w:zA) (F:Hid (Wd w)):
 qJ 212 #[zh #[St a,St b,St c],zh #[St g,St b',St h]] w (ze #[zg p,zj zm 0]):=by
 obtain⟨f,e⟩:=zzX ((w.alloc (zn #[St a,St b,St c] 137)).alloc (zn #[St g,St b',St h] 137));obtain⟨u,i,d⟩:=box2 e;obtain⟨k,l,m⟩:f.cell? ⟨w.heap.size,0,zp⟩=zq (St a)/\f.cell? ⟨w.heap.size,1,zp⟩=zq (St b)/\f.cell? ⟨w.heap.size,2,zp⟩=zq (St c):=⟨by rw[zJ i];rfl,by rw[zJ i];rfl,by rw[zJ i];rfl⟩;obtain⟨B,C,D⟩:f.cell? ⟨w.heap.size+1,0,zp⟩=zq (St g)/\f.cell? ⟨w.heap.size+1,1,zp⟩=zq (St b')/\f.cell? ⟨w.heap.size+1,2,zp⟩=zq (St h):=⟨by rw[zJ d];rfl,by rw[zJ d];rfl,by rw[zJ d];rfl⟩;have j:=hid u;have t:=hid e.symm;rw[e] at k l m B C D;clear e u i d;go_enter Tryz.func212,Tryz.ntmps212;go_wp21;have v:=t.out;rw[show(w.alloc (zn #[z8 ⟨a.toArray⟩,z8 ⟨b.toArray⟩,z8 ⟨c.toArray⟩] 137)).alloc (zn #[z8 ⟨g.toArray⟩,z8 ⟨b'.toArray⟩,z8 ⟨h.toArray⟩] 137)=f from v];clear v t k l m B C D;refine zzM (E f (F.below j.out)) λn A=>?_;have r:=hid (j.trans (A.mono j.size));clear A j;obtain⟨q,e⟩:=zzX (n.alloc (zn #[St x,St y,St z] 137));obtain⟨b2,d⟩:=zdn e;obtain⟨k,l,m⟩:q.cell? ⟨n.heap.size,0,zp⟩=zq (St x)/\q.cell? ⟨n.heap.size,1,zp⟩=zq (St y)/\q.cell? ⟨n.heap.size,2,zp⟩=zq (St z):=⟨by rw[zJ d];rfl,by rw[zJ d];rfl,by rw[zJ d];rfl⟩;have o:=hid (r.trans (b2.mono r.size));rw[e] at k l m o;clear e b2 d;cases p
 ·go_wp21
  all_goals first|(go_ret2;subst_vars;exact⟨rfl,o.out⟩)|(exfalso;subst_vars;exact absurd s.out (by decide))
 ·obtain⟨⟨rfl,rfl⟩,rfl⟩:(x=[48]/\y=[48])/\z=[48]:=by simpa using s.out
  go_wp21;go_ret2;exact⟨rfl,o.out⟩
structure SmS (w:zA) (a b c a' b' c':List UInt8) (d d':Value) (W:zA):Prop where
 bel:qL w W
 h0:W.heap[w.heap.size]? =zq (zn #[St a,St b,St c,d] 53 (0,0))
 h1:W.heap[w.heap.size+1]? =zq (zn #[St a',St b',St c',d'] 53 (0,0))
section
variable {w W W':zA} {a b c a' b' c':List UInt8} {d d':Value}
theorem SmS.next (h:SmS w a b c a' b' c' d d' W) (e:qL W W'):SmS w a b c a' b' c' d d' W':=
 ⟨h.bel.trans (e.mono h.bel.size),zac e _ _ _ _ h.h0,zac e _ _ _ _ h.h1⟩
theorem SmS.ca (h:SmS w a b c a' b' c' d d' W):W.cell? ⟨w.heap.size,0,zp⟩=zq (St a)/\W.cell? ⟨w.heap.size,1,zp⟩=zq (St b)/\W.cell? ⟨w.heap.size,2,zp⟩=zq (St c)/\W.cell? ⟨w.heap.size,3,zp⟩=zq d:=zhq h.h0
theorem SmS.cb (h:SmS w a b c a' b' c' d d' W):W.cell? ⟨w.heap.size+1,0,zp⟩=zq (St a')/\W.cell? ⟨w.heap.size+1,1,zp⟩=zq (St b')/\W.cell? ⟨w.heap.size+1,2,zp⟩=zq (St c')/\W.cell? ⟨w.heap.size+1,3,zp⟩=zq d':=zhq h.h1
end
def ylz (is neg:Bool) (Ea Eb F:Prop) (G:Int->Int->Prop) (bb:Bool) (r:Int):Prop:=
 (bb=zu/\r=0/\(is=zu\/neg=zt))\/(is=zt/\neg=zu/\((bb=zu/\r=4/\F)\/∃m,G m r/\bb=(decide (r=0)&&decide (m=0))/\Ea/\Eb))
theorem yi7 (a b c h b' i F P:List UInt8) (p x:Option Addr) (n t k s:Nat) (B neg:Bool) (l bc:List (Rat×Nat)) (ac ad ae:Prop) (G:Int->Int->Prop) (w:zA) (ak:Hid (Wd w))
 (X:B=zt->(F==[48])=zu) (ao:0<(⟨F.toArray⟩:ByteArray).size) (bb:((((⟨F.toArray⟩:ByteArray)[0]'ao).toNat:Int)==45)=neg)
 (aw:Hid (∀(g:zA) (au:Nat),qL w g->g.heap[au]? =zq (zn #[St a,St b,St c,z7 p n k,St h,St b',St i,z7 x t s] 53 (0,0))->qJ 98 #[z7 (zq ⟨au,0,zp⟩) 2 2] g (zj zm 0)))
 (b7:Hid (qK 212 #[zh #[St a,St b,St c],zh #[St h,St b',St i]] (ze #[zg B,zj zm 0])))
 (S:Hid (B=zt->qK 121 #[zh #[St a,St b,St c],zh #[St h,St b',St i]] (ze #[St F,zj zm 0])))
 (K:Hid (B=zt->neg=zu->qK 121 #[zh #[St h,St b',St i],zh #[St h,St b',St i]] (ze #[St P,zj zm 0])))
 (N:Hid (B=zt->neg=zu->∀g:zA,qL w g->zC zF 134 #[z7 p n k,St P] g λe w'=>∃q n c r,e=zo (ze #[z7 q n c,zj zm r])/\zB g.heap.size g w'/\OutR l ac ae (z7 q n c) r w'))
 (O:Hid (B=zt->neg=zu->∀g:zA,qL w g->zC zF 134 #[z7 x t s,St F] g λe w'=>∃q n c r,e=zo (ze #[z7 q n c,zj zm r])/\zB g.heap.size g w'/\OutR bc ad ae (z7 q n c) r w'))
 (J:Hid (B=zt->neg=zu->∀(g:zA) (u v:Value),ac->ad->qL w g->SdL u l g->SdL v bc g->zC zF 108 #[u,v] g λe w'=>∃m r,e=zo (ze #[zj zm m,zj zm r])/\zB g.heap.size g w'/\G m r)):
 zC zF 169 #[zh #[St a,St b,St c,z7 p n k],zh #[St h,St b',St i,z7 x t s]] w λe w'=>∃b8 r,e=zo (ze #[zg b8,zj zm r])/\zB w.heap.size w w'/\ylz B neg ac ad ae G b8 r:=by
 obtain⟨a9,C⟩:=zzX ((w.alloc (zn #[St a,St b,St c,z7 p n k] 53)).alloc (zn #[St h,St b',St i,z7 x t s] 53));obtain⟨am,aa,ab⟩:=box2 C;have ap:a9.heap.size=w.heap.size+1+1:=by rw[C];simp
 obtain⟨Y,Z,a0,a1⟩:=zhq aa;obtain⟨bf,bg,bh,bi⟩:=zhq ab;obtain⟨ar,aq⟩:=zzX (a9.alloc (zn #[St a,St b,St c,z7 p n k,St h,St b',St i,z7 x t s] 53));obtain⟨b2,av⟩:=zdn aq;have an:=am.trans (b2.mono am.size);have b3:Hid (SmS w a b c h b' i (z7 p n k) (z7 x t s) ar):=hid ⟨an,zac b2 _ _ _ _ aa,zac b2 _ _ _ _ ab⟩;have L:=hid (aw ar _ an av);rw[ap] at L;have b5:=hid C.symm;have b6:=hid aq.symm;have b1:=hid ap;obtain⟨D,W⟩:=zzX (⟨F.toArray⟩:ByteArray);have b9:D.toList=F:=by rw[W,ByteArray.toList_eq]
 rw[show St F=z8 D by rw[W]] at*
 replace X:B=zt->(D.toList==[48])=zu:=λk=>by rw[b9];exact X k
 have be:0<D.size:=by rw[W];exact ao
 have bl:(((D[0]'be).toNat:Int)==45)=neg:=by subst W;exact bb
 clear C aq am b2 aa ab av an aw ap bb ao b9 W;go_enter Tryz.func169,Tryz.ntmps169;go_wp21;have U:=b5.out;rw[show(w.alloc (zn #[z8 ⟨a.toArray⟩,z8 ⟨b.toArray⟩,z8 ⟨c.toArray⟩,z7 p n k] 53)).alloc (zn #[z8 ⟨h.toArray⟩,z8 ⟨b'.toArray⟩,z8 ⟨i.toArray⟩,z7 x t s] 53)=a9 from U];clear U b5;go_wp21;have U:=b6.out;rw[show a9.alloc (zn #[z8 ⟨a.toArray⟩,z8 ⟨b.toArray⟩,z8 ⟨c.toArray⟩,z7 p n k,z8 ⟨h.toArray⟩,z8 ⟨b'.toArray⟩,z8 ⟨i.toArray⟩,z7 x t s] 53)=ar from U]
 try rw[b1.out]
 clear U b6 b1 Y Z a0 a1 bf bg bh bi;refine zzM L.out λbs f=>?_;have b4:=hid (b3.next f);clear f L b3;go_wp21;refine zbl (λ_ g=>SmS w a b c h b' i (z7 p n k) (z7 x t s) g) (by kernel_rfl) (by kernel_rfl) (b4.next (zM _ _).drew) ?_;refine qR (zh #[St a,St b,St c,z7 p n k]) ?_ (hy:=λy j o d=>by obtain⟨a2,a3,a4,a5⟩:=d.ca;go_simp);simp only[zzQ]
 refine zar (zh #[St a,St b,St c]) (by rfl) (λy j o d E z=>by
  have A:=zc9 a b c p n k j;go_simp;refine zzM A λw' f=>?_;exact⟨rfl,z _ (d.next f)⟩) ?_
 refine qR (zh #[St h,St b',St i,z7 x t s]) ?_ (hy:=λy j o d=>by obtain⟨a2,a3,a4,a5⟩:=d.cb;go_simp);simp only[zzQ]
 refine zar (zh #[St h,St b',St i]) (by rfl) (λy j o d E z=>by
  have A:=zc9 h b' i x t s j;go_simp;refine zzM A λw' f=>?_;exact⟨rfl,z _ (d.next f)⟩) ?_
 try simp only[zzQ]
 refine zar (ze #[zg B,zj zm 0]) (by rfl) (λy j o d E z=>by
  have A:=b7 j (ak.below d.bel);go_simp;refine zzM A λw' f=>?_;exact⟨rfl,z _ (d.next f)⟩) ?_
 refine qR (ze #[zg B,zj zm 0]) ?_;refine qR (zg B) ?_;simp only[zzQ];refine qR (zj zm 0) ?_;refine qR (zg B) ?_;refine qR (zj zm 0) ?_;simp only[zzQ];refine zck λy al o d=>?_;have ah:=hid d;clear d o b4 b7;cases B
 ·clear S K N O J X
  go_wp21;go_ret2;exact⟨_,_,rfl,ah.bel,.inl ⟨rfl,rfl,.inl rfl⟩⟩
 replace X:=X rfl;replace S:=hid (S rfl);replace K:=hid (K rfl);replace N:=hid (N rfl);replace O:=hid (O rfl);replace J:=hid (J rfl);go_wp21;refine zbl (λ_ g=>SmS w a b c h b' i (z7 p n k) (z7 x t s) g) (by kernel_rfl) (by kernel_rfl) (ah.next (zM _ _).drew) ?_;refine qR (zh #[St a,St b,St c,z7 p n k]) ?_ (hy:=λy j o d=>by obtain⟨a2,a3,a4,a5⟩:=d.ca;go_simp);simp only[zzQ]
 refine zar (zh #[St a,St b,St c]) (by rfl) (λy j o d E z=>by
  have A:=zc9 a b c p n k j;go_simp;refine zzM A λw' f=>?_;exact⟨rfl,z _ (d.next f)⟩) ?_
 refine qR (zh #[St h,St b',St i,z7 x t s]) ?_ (hy:=λy j o d=>by obtain⟨a2,a3,a4,a5⟩:=d.cb;go_simp);simp only[zzQ]
 refine zar (zh #[St h,St b',St i]) (by rfl) (λy j o d E z=>by
  have A:=zc9 h b' i x t s j;go_simp;refine zzM A λw' f=>?_;exact⟨rfl,z _ (d.next f)⟩) ?_
 try simp only[zzQ]
 refine zar (ze #[z8 D,zj zm 0]) (by rfl) (λy j o d E z=>by
  have A:=S j (ak.below d.bel);go_simp;refine zzM A λw' f=>?_;exact⟨rfl,z _ (d.next f)⟩) ?_
 refine qR (ze #[z8 D,zj zm 0]) ?_;refine qR (z8 D) ?_;simp only[zzQ];refine qR (zj zm 0) ?_;refine qR (z8 D) ?_;refine qR (zj zm 0) ?_;simp only[zzQ];refine zck λy al o d=>?_;have ai:=hid d;clear d o ah S;cases neg
 ·have ay:=hid (K rfl);have b0:=hid (N rfl);have ag:=hid (O rfl);have a6:=hid (J rfl)
  clear K N O J;go_wp21;refine zbl (λ_ g=>SmS w a b c h b' i (z7 p n k) (z7 x t s) g) (by kernel_rfl) (by kernel_rfl) (ai.next (zM _ _).drew) ?_;refine qR (zh #[St h,St b',St i,z7 x t s]) ?_ (hy:=λy j o d=>by obtain⟨a2,a3,a4,a5⟩:=d.cb;go_simp);simp only[zzQ]
  refine zar (zh #[St h,St b',St i]) (by rfl) (λy j o d E z=>by
   have A:=zc9 h b' i x t s j;go_simp;refine zzM A λw' f=>?_;exact⟨rfl,z _ (d.next f)⟩) ?_
  refine qR (zh #[St h,St b',St i,z7 x t s]) ?_ (hy:=λy j o d=>by obtain⟨a2,a3,a4,a5⟩:=d.cb;go_simp);simp only[zzQ]
  refine zar (zh #[St h,St b',St i]) (by rfl) (λy j o d E z=>by
   have A:=zc9 h b' i x t s j;go_simp;refine zzM A λw' f=>?_;exact⟨rfl,z _ (d.next f)⟩) ?_
  try simp only[zzQ]
  refine zar (ze #[St P,zj zm 0]) (by rfl) (λy j o d E z=>by
   have A:=ay j (ak.below d.bel);go_simp;refine zzM A λw' f=>?_;exact⟨rfl,z _ (d.next f)⟩) ?_
  refine qR (ze #[St P,zj zm 0]) ?_;refine qR (St P) ?_;simp only[zzQ];refine qR (zj zm 0) ?_;refine qR (St P) ?_;refine qR (zj zm 0) ?_;simp only[zzQ];refine zck λy al o d=>?_;have T:=hid d;clear d o ai ay;obtain⟨Y,Z,a0,a1⟩:=T.ca;have I:=hid (b0 al T.bel);clear b0;go_wp21;clear Y Z a0 a1;refine I.mono ?_;rintro e bj ⟨bm,bn,bo,bd,rfl,f,R⟩;have M:=hid (T.next f);rcases R with⟨rfl,R,Q⟩|⟨rfl,R,V⟩
  rotate_left
  ·have af:=hid V
   clear f R I T V ag a6;go_wp21;go_ret2;exact⟨_,_,rfl,M.bel,.inr ⟨rfl,rfl,.inl ⟨rfl,rfl,af.out⟩⟩⟩
  have aj:=hid R;have a7:=hid Q;clear f R I T Q;obtain⟨Y,Z,a0,a1⟩:=M.cb;have I:=hid (ag bj M.bel);clear ag;go_wp21;clear Y Z a0 a1;refine I.mono ?_;rintro e bk ⟨bp,bq,br,bd,rfl,f,C⟩;have a8:=hid (M.next f);rcases C with⟨rfl,C,Q⟩|⟨rfl,C,V⟩
  rotate_left
  ·have af:=hid V
   clear f C I M V aj a7 a6;go_wp21;go_ret2;exact⟨_,_,rfl,a8.bel,.inr ⟨rfl,rfl,.inl ⟨rfl,rfl,af.out⟩⟩⟩
  have L:=hid (a6 bk _ _ a7 Q a8.bel (aj.below f) C);have az:=hid Q;clear f C I M aj a6 Q;go_wp21;refine L.mono ?_;rintro e bt ⟨m,r,rfl,f,ba⟩;have ax:=hid (a8.bel.trans (f.mono a8.bel.size));have a':=hid ba;clear f L ba;have H:decide (r=0)=zt\/decide (r=0)=zu:=by cases decide (r=0)<;>simp
  rcases H with H|H
  ·obtain rfl:r=0:=of_decide_eq_true H
   clear H;go_wp21;go_ret2;exact⟨_,_,rfl,ax.out,.inr ⟨rfl,rfl,.inr ⟨m,a'.out,by simp;rfl,a7.out,az.out⟩⟩⟩
  ·have H:¬r=0:=of_decide_eq_false H
   go_wp21;go_ret2;exact⟨_,_,rfl,ax.out,.inr ⟨rfl,rfl,.inr ⟨m,a'.out,by simp[H],a7.out,az.out⟩⟩⟩
 ·clear K N O J
  go_wp21;go_ret2;exact⟨_,_,rfl,ai.bel,.inl ⟨rfl,rfl,.inr rfl⟩⟩
theorem yh4 (v q:Value) (l:List (Rat×Nat)) (A:l.length<=5000) (w:zA) (h:SdL v l w) (n:SdL q l w):
 qJ 38 #[v,q] w (zg zt):=by
 obtain⟨K,E,rfl,y,o⟩:=h.slice;obtain⟨L,F,rfl,z,p⟩:=n.slice;have s:=hid o;have t:=hid p;have i:=hid (zM w.heap.size w);obtain⟨d,e⟩:=zzX l.length;rw[<-e] at A y z⊢;have r:=hid e;clear o p h n e;go_enter Tryz.func38,Tryz.ntmps38;go_wp21;go_loopw [5] (λg wr=>∃(a:Nat),a<=d/\g=zj zm (a:Int)/\Hid (qL w wr))
  (λg _=>d-(zL g).toNat)
 case atStart=>exact⟨0,zR _,rfl,i⟩
 case round=>
  clear i;obtain⟨a,G,rfl,b⟩:=hrel;by_cases hlt:a<d
  ·obtain⟨c,f⟩:∃c,l[a]? =zq c:=⟨_,yB (by rw[<-r.out];exact hlt)⟩
   obtain⟨C,I,rfl,u,j,c1⟩:=s a c f;obtain⟨D,J,rfl,x,k,m⟩:=t a c f;have j:=zai b j;have c1:=zai b c1;have k:=zai b k;have m:=zai b m;generalize numS c.1=M at*
   generalize decDigits c.2=N at*
   clear f u x;go_wp21
   (refine wp_region_quiet_lit (by kernel_rfl) (by kernel_rfl) (WQ.out ?_);(repeat(first|(apply WQ.read (by rfl);(focus(rintro B ⟨d,rfl⟩;go_simp;try with_reducible rfl));try simp only[zzQ])|(apply WQ.skip (by rfl);try simp only[zzQ])));refine WQ.nil ?_;rintro _ ⟨H,rfl⟩)
   go_wp21;go_roundw
   case rel=>exact⟨a+1,by omega,by go_num,hid (zao b _)⟩
   case measure=>simp[zL];omega
  ·go_wp21
   go_ret;exact⟨rfl,b.out⟩
theorem zx9 (a b c:List UInt8) (p g:Option Addr) (n f k e:Nat) (w:zA)
 (o:Hid (∀q:zA,qL w q->qJ 38 #[z7 p n k,z7 g f e] q (zg zt))):
 qJ 19 #[zh #[St a,St b,St c,z7 p n k],zh #[St a,St b,St c,z7 g f e]] w (zg zt):=by
 obtain⟨C,d⟩:=zzX ((w.alloc (zn #[St a,St b,St c,z7 p n k] 53)).alloc (zn #[St a,St b,St c,z7 g f e] 53));obtain⟨h,i,j⟩:=box2 d;obtain⟨y,z,A,B⟩:=zhq i;obtain⟨t,u,v,x⟩:=zhq j;have l:=hid h;have E:=hid (o C h);have m:=hid d.symm;rw[d] at y z A B t u v x;clear d h i j o;go_enter Tryz.func19,Tryz.ntmps19;go_wp21;have r:=m.out;rw[show(w.alloc (zn #[z8 ⟨a.toArray⟩,z8 ⟨b.toArray⟩,z8 ⟨c.toArray⟩,z7 p n k] 53)).alloc (zn #[z8 ⟨a.toArray⟩,z8 ⟨b.toArray⟩,z8 ⟨c.toArray⟩,z7 g f e] 53)=C from r];clear r m y z A B t u v x;refine zzM E.out λF s=>?_;have D:=hid (l.trans (s.mono l.size));clear s;go_wp21;go_ret;exact⟨rfl,D.out⟩
end
section
open Go.RowKit Go.Shelf Lib Str Limb
def dotH (h k:Hq):Rat:=h.a*k.a+h.b*k.b+h.c*k.c
theorem ye7 {h k:Hq} (j:HOk h) (ok:HOk k) (z:zjh (crQ h k)):dotH h k=1\/dotH h k= -1:=by
 have l:∀{a:Rat},zfr a->a*a=1:=λh=>by rcases h with rfl|rfl<;>grind
 have i:∀{a f:Rat},zfr a->zfr f->a*f=1\/a*f= -1:=λh k=>by
  rcases h with rfl|rfl<;>rcases k with rfl|rfl<;>grind
 have g:∀{a f:Rat},zfr a->zfr f->a*f≠0:=λh k=>by
  rcases h with rfl|rfl<;>rcases k with rfl|rfl<;>grind
 obtain⟨z1,z2,z3⟩:=z;unfold crQ crX1 crX2 crX3 at z1 z2 z3;dsimp only at z1 z2 z3;unfold dotH;rcases j.ax with⟨a1,b,c⟩|⟨a1,b,c⟩|⟨a1,b,c⟩<;>rcases ok.ax with⟨d,b2,e⟩|⟨d,b2,e⟩|⟨d,b2,e⟩
 ·have:=i a1 d;rw[b,c];grind
 ·have:=g a1 b2;rw[b,d] at z3;grind
 ·have:=g a1 e;rw[c,d] at z2;grind
 ·have:=g b d;rw[a1,b2] at z3;grind
 ·have:=i b b2;rw[a1,c];grind
 ·have:=g b e;rw[c,b2] at z1;grind
 ·have:=g c d;rw[a1,e] at z2;grind
 ·have:=g c b2;rw[b,e] at z1;grind
 ·have:=i c e;rw[a1,b];grind
theorem ye8 {h k:Hq} (d:HOk h) (ok:HOk k):sz (dotH h k) 9:=by
 obtain⟨a,b,c⟩:=d.s3;obtain⟨e,f,g⟩:=ok.s3;exact(zk0 (zk0 (zca a e) (zca b f)) (zca c g)).mono (show _<=9 by omega)
theorem ylj (h k:Hq) (l:HOk h) (ok:HOk k) (v u:Value) (w:zA) (hw:Hw w) (y:SdL v (rs h.d) w) (x:SdL u (rs k.d) w):
 qJ 169 #[zh #[St (numS h.a),St (numS h.b),St (numS h.c),v],zh #[St (numS k.a),St (numS k.b),St (numS k.c),u]] w (ze #[zg (zkj h k),zj zm 0]):=by
 obtain⟨N,L,e,rfl⟩:=y.any;obtain⟨O,M,D,rfl⟩:=x.any;have E:∀{h:Hq},HOk h->sz3 h.a h.b h.c 30:=λok=>by
  obtain⟨s,t,e⟩:=ok.s3;exact⟨s.mono (by omega),t.mono (by omega),e.mono (by omega)⟩
 have q:∀{h:Hq},HOk h->sz3 h.a h.b h.c 40:=λok=>by
  obtain⟨s,t,e⟩:=ok.s3;exact⟨s.mono (by omega),t.mono (by omega),e.mono (by omega)⟩
 obtain⟨a0,V⟩:=ziy (dotH h k) ⟨(numS (dotH h k)).toArray⟩ rfl;have G:=ye8 l ok;have H:=ye8 ok ok;have z:=zca l.d H;have A:=zca ok.d G;refine(yi7 (numS h.a) (numS h.b) (numS h.c) (numS k.a) (numS k.b) (numS k.c) (numS (dotH h k)) (numS (dotH k k)) N O L M e D (zdi (crQ h k)) (decide (dotH h k<0)) (rs (h.d*dotH k k)) (rs (k.d*dotH h k)) True True False
  (λp B=>p=Geo.cmpR (h.d*dotH k k) (k.d*dotH h k)/\B=0) w (hid hw.wd) (λa5=>?_) a0 V (hid λb C a j=>?_) (hid λb a=>?_) (hid λ_ b a=>zq7 _ _ _ _ _ _ (q l) (q ok) b a) (hid λ_ _ b a=>zq7 _ _ _ _ _ _ (q ok) (q ok) b a)
  (hid λ_ _ b a=>?_) (hid λ_ _ b a=>?_) (hid λ_ _ b P Q _ _ a a3 a4=>?_)).mono ?_
 ·rcases ye7 l ok (zlc.1 a5) with d|d<;>exact zsf (by rw[d];decide)
 ·refine zgo (zq ⟨C,0,zp⟩) 2 2 (λc=>if c=0 then numS h.a else numS k.a) (λc=>if c=0 then numS h.b else numS k.b) (λc=>if c=0 then numS h.c else numS k.c) (λc=>if c=0 then z7 N L e else z7 O M D) (by omega) (λc _=>by by_cases d:c=0<;>simp[d]) b (hid λc X o f=>?_) (hid λc X=>⟨C,0,rfl,?_⟩)
  ·rcases(show c=0\/c=1 by omega) with rfl|rfl
   ·exact zol h l _ o ((hw.below a).below f) ((y.below a).below f)
   ·exact zol k ok _ o ((hw.below a).below f) ((x.below a).below f)
  ·rcases(show c=0\/c=1 by omega) with rfl|rfl
   ·exact⟨by rw[zJ j];rfl,by rw[zJ j];rfl,by rw[zJ j];rfl,by rw[zJ j];rfl⟩
   ·exact⟨by rw[zJ j];rfl,by rw[zJ j];rfl,by rw[zJ j];rfl,by rw[zJ j];rfl⟩
 ·refine ydj _ _ _ _ _ _ (numS (crX1 h k)) (numS (crX2 h k)) (numS (crX3 h k)) _ (hid ?_) (hid λo f=>zmc _ _ _ _ _ _ (E l) (E ok) o f) b (hid a)
  rw[Bool.and_assoc];exact zs8 _ _ _
 ·refine(ze2 _ h.d (dotH k k) (l.d.mono (by omega)) (H.mono (by omega)) (z.mono (by omega)) b (hw.below a).d (hw.below a).p (y.below a)).mono ?_
  rintro d r ⟨v,rfl,g,n⟩;obtain⟨m,p,e,rfl⟩:=n.any;exact⟨m,p,e,0,rfl,g,OutR.of n⟩
 ·refine(ze2 _ k.d (dotH h k) (ok.d.mono (by omega)) (G.mono (by omega)) (A.mono (by omega)) b (hw.below a).d (hw.below a).p (x.below a)).mono ?_
  rintro d r ⟨v,rfl,g,n⟩;obtain⟨m,p,e,rfl⟩:=n.any;exact⟨m,p,e,0,rfl,g,OutR.of n⟩
 ·rw[show Geo.cmpR (h.d*dotH k k) (k.d*dotH h k)=Geo.cmpR (h.d*dotH k k-k.d*dotH h k) 0 from Geo.zzp _ _ _ _ (by grind)]
  have J:=(zfq z A).mono (show _<=60 by omega);refine(zj4 P Q (rs (h.d*dotH k k-k.d*dotH h k)).length _ (λm F b=>SdL (z7 m (rs (h.d*dotH k k-k.d*dotH h k)).length F) (rs (h.d*dotH k k-k.d*dotH h k)) b) b (hid ?_) (hid λo m F f n=>zr1 _ _ J o ((hw.below a).below f).wd ((hw.below a).below f).sw n)).mono ?_
  ·refine(zqj P Q _ _ (z.mono (by omega)) (A.mono (by omega)) J b (hw.below a).d (hw.below a).p a3 a4).mono λd r ⟨v,S,U,h⟩=>?_
   obtain⟨m,e,rfl, -⟩:=h.slice;exact⟨m,e,S,U,h⟩
  ·rintro d r ⟨rfl,g⟩
   exact⟨_,_,rfl,g,rfl,rfl⟩
 ·rintro d r ⟨R,B,rfl,g,a2⟩
  have K:R=zkj h k/\B=0:=by
   unfold zkj;have W:h.a*k.a+h.b*k.b+h.c*k.c=dotH h k:=rfl;have Y:k.a*k.a+k.b*k.b+k.c*k.c=dotH k k:=rfl;rw[W,Y];rcases a2 with⟨rfl,rfl,i⟩|⟨i,I,⟨-, -,T⟩|⟨p,⟨Z,rfl⟩,g, -⟩⟩
   ·refine⟨?_,rfl⟩
    rcases i with i|i
    ·rw[i];rfl
    ·rw[decide_eq_false (show ¬(0:Rat)<dotH h k by have:=of_decide_eq_true i;grind)];simp
   ·exact T.elim
   ·refine⟨?_,rfl⟩
    have a1:0<dotH h k:=by
     rcases ye7 l ok (zlc.1 i) with d|d
     ·rw[d];decide
     ·rw[d] at I;exact absurd I (by decide)
    rw[g,i,decide_eq_true a1,Z];simp[cmp0]
  rw[K.1,K.2];exact⟨rfl,g⟩
def folS (h:Hq) (l:List Pq) (own:List Nat) (k:Hq) (on:List Nat) (m:List (Nat×Nat)):List (Nat×Nat):=
 if zdi (crQ h k)=zt then m else match own.filter (λn=>on.contains n) with
  |[a,b]=>(if 0<zj1 (crQ h k) (getP l a) (getP l b) then(b,a) else(a,b))::m
  |_=>m
theorem zw7 (h:Hq) (l:List Pq) (a:List Nat) (k:Hq) (on:List Nat):∀(xs:List (Hq×List Nat)) (m:List (Nat×Nat)),folQ h l a (xs++[(k,on)]) m=folS h l a k on (folQ h l a xs m)
 |[],_=>rfl
 |(_,_)::r,_=>zw7 h l a k on r _
def folF (s:List Hq) (l:List Pq) (i k:Nat):List (Nat×Nat):=folQ (gH s i) l (onQ (gH s i) l) ((List.range k).map λj=>(gH s j,onQ (gH s j) l)) []
theorem zli (s:List Hq) (l:List Pq) (i k:Nat):folF s l i (k+1)=folS (gH s i) l (onQ (gH s i) l) (gH s k) (onQ (gH s k) l) (folF s l i k):=by
 unfold folF;rw[List.range_succ,List.map_append];exact zw7 _ _ _ _ _ _ _
theorem yi8 (h:Hq) (l:List Pq) (a:List Nat) (k:Hq) (on:List Nat) (m:List (Nat×Nat)):(folS h l a k on m).length<=m.length+1:=by
 unfold folS;split
 ·omega
 ·split
  ·simp
  ·omega
theorem ydk (s:List Hq) (l:List Pq) (i:Nat):∀k,(folF s l i k).length<=k
 |0=>zN 0
 |k+1=>by
  rw[zli];exact zO (yi8 _ _ _ _ _ _) (by have:=ydk s l i k;omega)
theorem yi9 (a:List Hq) (l:List Pq) (i:Nat):folF a l i a.length=folQ (gH a i) l (onQ (gH a i) l) (a.map λk=>(k,onQ k l)) []:=by
 unfold folF;congr 1;apply List.ext_getElem
 ·simp
 ·intro d e b
  have c:d<a.length:=by simpa using b
  simp[gH,c]
theorem yh5 (q:Rat):((⟨(numS q).toArray⟩:ByteArray).toList==[48])=decide (q=0):=by
 rw[ByteArray.toList_eq,List.toList_toArray];by_cases h:q=0
 ·rw[decide_eq_true h,h,zie];rfl
 ·rw[decide_eq_false h];exact zsf h
theorem zp0 (a b:Rat): -9<=Geo.cmpR a b/\Geo.cmpR a b<=9:=by
 rcases Geo.zaw a b with⟨-,e⟩|⟨-,e⟩|⟨-,e⟩<;>rw[e]<;>decide
theorem ykq (v q r:Pq) (f:sz3 q.x q.y q.z 10) (g:sz3 r.x r.y r.z 10) (c:zA) (hw:Hw c) (w x y z A B:Option Addr) (s t u n o p h i j k l m:Nat) (d:MrkP (z7 w s h) (z7 x t i) (z7 y u j) q c) (e:MrkP (z7 z n k) (z7 A o l) (z7 B p m) r c):
 qJ 171 #[zh #[St (numS v.x),St (numS v.y),St (numS v.z)],zh #[z7 w s h,z7 x t i,z7 y u j],zh #[z7 z n k,z7 A o l,z7 B p m]] c (ze #[zj zm (zj1 v q r),zj zm 0]):=by
 have C:=zt2 ⟨(numS v.x).toArray⟩ ⟨(numS v.y).toArray⟩ ⟨(numS v.z).toArray⟩ w x y z A B s t u n o p h i j k l m (decide (v.x=0)) (decide (v.y=0)) (decide (v.x<0)) (decide (v.y<0)) (decide (v.z<0)) (Geo.cmpR q.x r.x) (Geo.cmpR q.y r.y) (Geo.cmpR q.z r.z) c
  (yh5 _) (yh5 _) (hid (ziy _ _ rfl)) (hid (ziy _ _ rfl)) (hid (ziy _ _ rfl)) ⟨zp0 _ _,zp0 _ _,zp0 _ _⟩
  (hid λb a=>zop _ _ _ _ f.1 g.1 b (hw.below a) (d.x.below a) (e.x.below a))
  (hid λb a=>zop _ _ _ _ f.2.1 g.2.1 b (hw.below a) (d.y.below a) (e.y.below a))
  (hid λb a=>zop _ _ _ _ f.2.2 g.2.2 b (hw.below a) (d.z.below a) (e.z.below a))
 have D:(if decide (v.x=0)=zu then(if decide (v.x<0)=zt then-Geo.cmpR q.x r.x else Geo.cmpR q.x r.x) else if decide (v.y=0)=zu then(if decide (v.y<0)=zt then-Geo.cmpR q.y r.y else Geo.cmpR q.y r.y) else(if decide (v.z<0)=zt then-Geo.cmpR q.z r.z else Geo.cmpR q.z r.z))=zj1 v q r:=by
  unfold zj1;simp only[decide_eq_false_iff_not,decide_eq_true_eq,ne_eq]
 rw[D] at C;exact C
theorem zo8 {h:Hq} {l:List Pq} {x:Nat} (a:x∈onQ h l):x<l.length:=by
 unfold onQ at a;exact List.mem_range.1 (List.mem_filter.1 a).1
theorem zw9 (h:Hq) (l:List Pq):(onQ h l).length<=l.length:=by
 unfold onQ;exact zO (List.length_filter_le _ _) (by simp)
theorem yh6 {h:Hq} {l:List Pq} {b:List Nat} {k:Hq} {on:List Nat} {m:List (Nat×Nat)} (c:zdi (crQ h k)=zt\/(filK b on b.length).length≠2):folS h l b k on m=m:=by
 unfold folS;split
 ·rfl
 ·rcases c with a|a
  ·contradiction
  ·rw[ydh] at a
   split
   ·rename_i heq
    rw[heq] at a;exact absurd rfl a
   ·rfl
theorem yja {h:Hq} {l:List Pq} {c:List Nat} {k:Hq} {on:List Nat} {m:List (Nat×Nat)} {a b:Nat} (e:zdi (crQ h k)=zu) (d:filK c on c.length=[a,b]):folS h l c k on m=(if 0<zj1 (crQ h k) (getP l a) (getP l b) then(b,a) else(a,b))::m:=by
 unfold folS;rw[ydh] at d;rw[if_neg (by rw[e];decide),d]
section
variable (p:Option Addr) (cap:Nat) (s:List Hq) (g:SolG s) (D:Nat->Value) (w:zA) (hw:Hw w) (hs:SolW p s D w)
include g hw hs
theorem yh7 (c:s.length<=cap) (i:Nat) (d:i<s.length):qJ 129 #[z7 p s.length cap,zj zm (i:Int)] w (ze #[zg (anyK (λj=>zkj (gH s j) (gH s i)) i),zj zm 0]):=
 zx6 p cap s.length i d g.n32 c _ _ _ D hs.any _ w (hid λj _ b a=>ylj (gH s j) (gH s i) (g.g j) (g.g i) _ _ b (hw.below a) ((hs.sd j).below a) ((hs.sd i).below a)) (hid hs.row)
theorem ykr (i:Nat) (z:i<s.length) (a:List Pq) (u:a.length<=4000) (E:∀q∈a,sz3 q.x q.y q.z 10) (l m:Option Addr) (r t:Nat) (A:RowMk l a w) (B:RowOn m s.length (λk=>onQ (gH s k) a) w):
 zC zF 130 #[z7 p s.length cap,zj zm (i:Int),z7 l a.length r,z7 m s.length t] w λe w'=>e=zo (ze #[.map (zq w.heap.size),zj zm 0])/\zB w.heap.size w w'/\MapN (folF s a i s.length) w.heap.size w':=by
 have o:∀i,sz3 (gH s i).a (gH s i).b (gH s i).c 30:=λi=>by
  obtain⟨b,c,v⟩:=(g.g i).s3;exact⟨b.mono (by omega),c.mono (by omega),v.mono (by omega)⟩
 have n:∀b,b<a.length->sz3 (getP a b).x (getP a b).y (getP a b).z 10:=λb ha=>E _ (by unfold getP;rw[yB ha];exact List.getElem_mem ha);have Y:=g.n32;exact yej p l m cap s.length i r t z g.n32 _ _ _ D hs.any (λk=>numS (crX1 (gH s i) (gH s k))) (λk=>numS (crX2 (gH s i) (gH s k))) (λk=>numS (crX3 (gH s i) (gH s k))) (λk=>zdi (crQ (gH s i) (gH s k))) a u
  (λk=>onQ (gH s k) a) (hid λk _=>⟨zO (zw9 _ _) u,λZ C=>zo8 C⟩) (λk b c=>zj1 (crQ (gH s i) (gH s k)) (getP a b) (getP a c)) (folF s a i) w
  (hid ⟨rfl,λk X=>by have:=ydk s a i k;omega⟩)
  (hid λk _ x=>by rw[zli];exact yh6 x)
  (hid λk _ f b c h=>by rw[zli];exact yja f h)
  (hid λk _=>zs8 _ _ _)
  (hid λk _ d j=>zmc _ _ _ _ _ _ (o i) (o k) d (hw.below j).wd)
  (hid λk b c _ ha y d R S T U V W O P Q L M N F G H I J K j f h=>ykq (crQ (gH s i) (gH s k)) _ _ (n b ha) (n c y) d (hw.below j) R S T U V W O P Q L M N F G H I J K f h)
  (hid hs.row) (hid A) (hid B)
end
theorem yh8 {m:List (Nat×Nat)} {x y:Nat}:m.lookup x=zq y->(x,y)∈m:=by
 induction m with
 |nil=>intro a;cases a
 |cons d g c=>
  obtain⟨b,f⟩:=d;intro a;by_cases e:x=b
  ·subst e
   rw[List.lookup_cons_self] at a;cases a;exact List.mem_cons_self
  ·rw[List.lookup_cons,beq_false_of_ne e] at a
   exact List.mem_cons_of_mem _ (c a)
theorem zo9 (d:List Hq) (l:List Pq) (i:Nat):∀(k:Nat) (p:Nat×Nat),p∈folF d l i k->p.2<l.length
 |0,p,c=>by cases c
 |k+1,p,c=>by
  rw[zli] at c;unfold folS at c;split at c
  ·exact zo9 d l i k p c
  ·split at c
   ·rename_i a b heq
    rcases List.mem_cons.1 c with f|c
    ·have ha:a∈onQ (gH d i) l:=(List.mem_filter.1 (by rw[heq];simp:a∈(onQ (gH d i) l).filter λe=>(onQ (gH d k) l).contains e)).1
     have g:b∈onQ (gH d i) l:=(List.mem_filter.1 (by rw[heq];simp:b∈(onQ (gH d i) l).filter λe=>(onQ (gH d k) l).contains e)).1;subst f;split
     ·exact zo8 ha
     ·exact zo8 g
    ·exact zo9 d l i k p c
   ·exact zo9 d l i k p c
theorem zxa (a:List Hq) (f:Hq->Bool):∀i,i<=a.length->(a.take i).any f=anyK (λj=>f (gH a j)) i
 |0,_=>rfl
 |i+1,c=>by
  have b:a[i]? =zq (gH a i):=by unfold gH;rw[yB (by omega)];rfl
  rw[List.take_add_one,b,Option.toList_some,List.any_append,zxa a f i (by omega)];simp[anyK]
theorem ydl (a:List Hq) (l:List Pq) (i:Nat) (d:i<a.length):zqh a l i=if(anyK (λj=>zkj (gH a j) (gH a i)) i||decide ((onQ (gH a i) l).length<3))=zt then[] else
 zk8 (folF a l i a.length) ((onQ (gH a i) l).headD 0) (onQ (gH a i) l).length (onQ (gH a i) l).length [(onQ (gH a i) l).headD 0] ((folF a l i a.length).lookup ((onQ (gH a i) l).headD 0)):=by
 have b:a[i]? =zq (gH a i):=by unfold gH;rw[yB (by omega)];rfl
 unfold zqh;rw[b];dsimp only;rw[zxa a (λc=>zkj c (gH a i)) i (by omega),yi9]
theorem ylk (p:Option Addr) (cap:Nat) (a:List Hq) (g:SolG a) (D:Nat->Value) (w:zA) (hw:Hw w) (m:SolW p a D w) (x:a.length<=cap) (y:empQ a (za4 a (tr3 a))=zu):
 zC zF 88 #[z7 p a.length cap] w λe w'=>∃G,e=zo (ze #[z7 (zq ⟨G,0,zp⟩) a.length a.length,zj zm 0])/\zB w.heap.size w w'/\RowOn (zq ⟨G,0,zp⟩) a.length (zqh a (za4 a (tr3 a))) w':=by
 have Q:(za4 a (tr3 a)).length<=300:=by rw[<-zj9];exact zO (zmf a _) g.m
 have C:∀c∈za4 a (tr3 a),sz3 c.x c.y c.z 10:=λc q=>by
  rw[<-zj9] at q;exact ziz (G:=λc=>sz3 c.x c.y c.z 10) (λE n b _ _ _ k=>zrb (g.g E) (g.g n) (g.g b) k) _ c q
 refine ygi p cap a.length g.n32 g.n1 (za4 a (tr3 a)) (λb=>onQ (gH a b) (za4 a (tr3 a))) (λb=>anyK (λn=>zkj (gH a n) (gH a b)) b) (λb=>folF a (za4 a (tr3 a)) b a.length) (zqh a (za4 a (tr3 a))) w
  (hid λb _=>⟨zO (zw9 _ _) (by omega),λJ B=>by have:=zo8 B;omega⟩)
  (hid λb J X d=>by have:=zo9 _ _ _ _ _ (yh8 d);dsimp only at this;omega)
  (hid λb f d=>?_) (hid λb f j o first l=>?_) (hid ?_)
  (hid λb f i h=>yh7 p cap a g D i (hw.below h) (m.below h) x b f)
  (hid λb f _ _ i H I r s h z A=>ykr p cap a g D i (hw.below h) (m.below h) b f _ (by omega) C H I r s z A)
 ·rw[ydl a _ b f,if_pos]
  rcases d with d|d
  ·rw[d];rfl
  ·rw[decide_eq_true d,Bool.or_true]
 ·have k:(onQ (gH a b) (za4 a (tr3 a))).headD 0=first:=by
   generalize onQ (gH a b) (za4 a (tr3 a))=F at l
   cases F with
   |nil=>cases l
   |cons K W=>exact Option.some.inj l
  rw[ydl a _ b f,if_neg,k];rw[j,decide_eq_false (by omega)];decide
 ·refine(yjo p cap a g D w hw m y).mono ?_
  rintro e w' ⟨U,T,R,O,N,L,rfl,v,V,S,P,M,t,u,j,o⟩;cases t;cases u;exact⟨_,_,_,_,rfl,v,j,o⟩
end
section
open Go.RowKit Go.Shelf Lib Str Limb
attribute [local go_sem] Oper.semAt_some
theorem zub (p A:Option Addr) (n z cap u:Nat) (d R:Value->zA->Prop) (x:∀v a g,d v a->qL a g->d v g) (w:zA)
 (k:Hid (zC zF 21 #[z7 p n cap,z7 A z u] w λe w'=>∃q m c,e=zo (ze #[z7 q m c,zj zm 0])/\zB w.heap.size w w'/\d (z7 q m c) w'))
 (l:Hid (∀(a:zA) (q:Option Addr) (m c:Nat),qL w a->d (z7 q m c) a->qJ 22 #[z7 q m c] a (ze #[zg zu,zj zm 0])))
 (t:Hid (∀(a:zA) (q:Option Addr) (m c:Nat),qL w a->d (z7 q m c) a->zC zF 33 #[z7 q m c] a λe w'=>∃p n c,e=zo (ze #[z7 p n c,zj zm 0])/\zB a.heap.size a w'/\R (z7 p n c) w')):
 zC zF 15 #[z7 p n cap,z7 A z u] w λe w'=>∃p n c,e=zo (ze #[z7 p n c,zj zm 0])/\zB w.heap.size w w'/\R (z7 p n c) w':=by
 go_enter Tryz.func15,Tryz.ntmps15;go_wp21;refine k.mono ?_;rintro e D ⟨q,m,c,rfl,b,i⟩;have h:=hid b;have o:=hid (l D q m c b i);have s:=hid λg C=>x _ _ g i C;clear b i k l x;go_wp21;refine zzM o.out λB b=>?_;have f:=hid (h.trans (b.mono h.size));have r:=hid (t B q m c f (s B b));clear b o h t s;go_wp21;refine r.mono ?_;rintro e G ⟨F,E,c1,rfl,b,y⟩;have j:=hid (⟨f.trans (b.mono f.size),y⟩:_/\_);clear b y r f;go_wp21;go_ret2;exact⟨_,_,_,rfl,j.1,j.2⟩
theorem yh9 (a b:Rat) (ha:sz a 9) (w:zA) (s:Hid (Hw w)):
 zC zF 14 #[St (numS a),St (numS b)] w λe w'=>∃q c D,e=zo (z7 q 6 c)/\6<=c/\zB w.heap.size w w'/\SolW q (zc1 a b) D w':=by
 obtain⟨r,d⟩:=zzX (w.alloc (zn #[St (numS a),St (numS b)] 24));obtain⟨i,j⟩:=hbxU d;obtain⟨l,c1⟩:=zho j;have f:=hid i;have h:=hid (zpp ⟨a,a,a⟩ ⟨b,b,b⟩ ⟨ha,ha,ha⟩ r (hid (s.below i)));rw[d] at l c1;have k:=hid d.symm;clear d i j;dsimp only at h;unfold zc1;generalize numS a=t at*
 generalize numS b=u at*
 go_enter Tryz.func14,Tryz.ntmps14;go_wp21;have m:=k.out;rw[show w.alloc (zn #[z8 ⟨t.toArray⟩,z8 ⟨u.toArray⟩] 24)=r from m];clear m k l c1;refine h.mono ?_;rintro e v ⟨q,c,D,rfl,o,n,p⟩;have g:=hid (⟨o,f.trans (n.mono f.size),p⟩:_/\_/\_);clear o n p f h;go_wp21;go_ret;exact⟨_,_,D,rfl,g.1,g.2.1,g.2.2⟩
theorem zf8 {l u:Pq} (b:sz3 l.x l.y l.z 10) (c:sz3 u.x u.y u.z 10):SolG (boxH l u):=
 ⟨z15 b c,Enum2.of yk8,Enum3.of yk7,by show 1<=6;omega,by show 6<=32;omega,by show(ix3 6).length<=300;decide,l,u,λ_ a=>a⟩
theorem zp2 {l u b c:Pq} (e:sz3 l.x l.y l.z 10) (g:sz3 u.x u.y u.z 10) (f:sz3 b.x b.y b.z 10) (h:sz3 c.x c.y c.z 10):SolG (boxH l u++boxH b c):=
 ⟨λa d=>(List.mem_append.1 d).elim (z15 e g a) (z15 f h a),Enum2.of yj0,Enum3.of yjy,by show 1<=12;omega,by show 12<=32;omega,by show(ix3 12).length<=300;decide+kernel,l,u,λ_ a=>List.mem_append_left _ a⟩
theorem ydm {l u a b:Pq} (j:sz3 l.x l.y l.z 10) (n:sz3 u.x u.y u.z 10) (m:sz3 a.x a.y a.z 10) (o:sz3 b.x b.y b.z 10) (g:ltP l u) (h:ltP a b) (p c:Option Addr) (cap e:Nat) (D d:Nat->Value) (w:zA) (hw:Hw w) (r:SolW p (boxH l u) D w) (s:SolW c (boxH a b) d w) (B:Bool) (i:B=zt↔ltP (hiP l a) (loP u b)):
 qJ 7 #[z7 p 6 cap,z7 c 6 e] w (ze #[zg B,zj zm 0]):=by
 have f:=yi1 p c cap e (boxH l u) (boxH a b) (zf8 j n) (zf8 m o) (zp2 j n m o) (zft g) (zft h) D d w hw r s;have q:(!empQ (boxH l u++boxH a b) (za4 (boxH l u++boxH a b) (tr3 (boxH l u++boxH a b))))=B:=by
  by_cases k:ltP (hiP l a) (loP u b)
  ·rw[zpd k,i.2 k];rfl
  ·rw[zvu k g h]
   cases B
   ·rfl
   ·exact(k (i.1 rfl)).elim
 rw[q] at f;exact f
theorem zxq {l u a b:Pq} (m:sz3 l.x l.y l.z 10) (o:sz3 u.x u.y u.z 10) (n:sz3 a.x a.y a.z 10) (q:sz3 b.x b.y b.z 10) (h:ltP l u) (i:ltP a b) (p d:Option Addr) (cap f:Nat) (D e:Nat->Value) (w:zA) (hw:Hw w) (v:SolW p (boxH l u) D w) (x:SolW d (boxH a b) e w) (B c:Bool) (j:B=zt↔ltP (hiP l a) (loP u b)) (t:c=zt↔leP (hiP l a) (loP u b)):
 qJ 8 #[z7 p 6 cap,z7 d 6 f] w (ze #[zg (c&&!B),zj zm 0]):=by
 have g:=yld p d cap f (boxH l u) (boxH a b) (zf8 m o) (zf8 n q) (zp2 m o n q) (zft h) (zft i) D e w hw v x;have r:(empQ (boxH l u++boxH a b) (za4 (boxH l u++boxH a b) (tr3 (boxH l u++boxH a b)))&&decide (za4 (boxH l u++boxH a b) (tr3 (boxH l u++boxH a b))≠[]))=(c&&!B):=by
  have s:decide (za4 (boxH l u++boxH a b) (tr3 (boxH l u++boxH a b))≠[])=c:=by
   rw[Bool.eq_iff_iff,decide_eq_true_iff,t];exact ygt
  rw[s];by_cases k:ltP (hiP l a) (loP u b)
  ·rw[zpd k,j.2 k];simp
  ·rw[zvu k h i]
   have:B=zu:=by
    cases B
    ·rfl
    ·exact(k (j.1 rfl)).elim
   rw[this];simp
 rw[r] at g;exact g
@[local go_sem high] theorem max_four {P:Program} (w:zA) (ts:Array TypeId) (t:TypeId):(Builtin.max_ ts t #[zj zm 0,zj zm 0,zj zm 0,zj zm 0]).run P w=.ok (zj zm 0) w:=by
  simp[Builtin.max_,Builtin.max2,asBool]
structure AwkS (w0:zA) (g:SlT×SlT) (f:Nat->Bool) (W:zA):Prop where
 bel:qL w0 W
 s1:f 11=zt->SdL (slV g.1) (rs 1) W
 s2:f 22=zt->SdL (slV g.2) (rs 2) W
theorem AwkS.step {b:zA} {g:SlT×SlT} {f:Nat->Bool} {a:zA} (h:AwkS b g f a) (k:Nat) (c:k≠11) (d:k≠22):AwkS b g (λj=>if k=j then zt else f j) a:=⟨h.bel,by rw[if_neg c];exact h.s1,by rw[if_neg d];exact h.s2⟩
theorem AwkS.next {e:zA} {g:SlT×SlT} {f:Nat->Bool} {c d:zA} (h:AwkS e g f c) (a:qL c d):AwkS e g f d:=⟨h.bel.trans (a.mono h.bel.size),λb=>(h.s1 b).below a,λb=>(h.s2 b).below a⟩
theorem AwkS.got1 {b:zA} {g:SlT×SlT} {f:Nat->Bool} {a:zA} (h:AwkS b g f a) {v:SlT} (c:SdL (slV v) (rs 1) a):AwkS b (v,g.2) (λj=>if 11=j then zt else f j) a:=⟨h.bel,λ_=>c,h.s2⟩
theorem AwkS.got2 {b:zA} {g:SlT×SlT} {f:Nat->Bool} {a:zA} (h:AwkS b g f a) {v:SlT} (c:SdL (slV v) (rs 2) a):AwkS b (g.1,v) (λj=>if 22=j then zt else f j) a:=⟨h.bel,h.s1,λ_=>c⟩
theorem ydn (A F G:Value->zA->Prop) (w:zA) (K:Hid (∀v b d,A v b->qL b d->A v d)) (ae:Hid (∀v b d,F v b->qL b d->F v d)) (Y:Hid (∀v b d,G v b->qL b d->G v d))
 (a0:Hid (∀b:zA,qL w b->zC zF 14 #[z8 ⟨#[48]⟩,z8 ⟨#[50]⟩] b λe w'=>∃p n c,e=zo (z7 p n c)/\zB b.heap.size b w'/\A (z7 p n c) w'))
 (a1:Hid (∀b:zA,qL w b->zC zF 14 #[z8 ⟨#[49]⟩,z8 ⟨#[51]⟩] b λe w'=>∃p n c,e=zo (z7 p n c)/\zB b.heap.size b w'/\F (z7 p n c) w'))
 (a2:Hid (∀b:zA,qL w b->zC zF 14 #[z8 ⟨#[50]⟩,z8 ⟨#[52]⟩] b λe w'=>∃p n c,e=zo (z7 p n c)/\zB b.heap.size b w'/\G (z7 p n c) w'))
 (a5:Hid (∀(b:zA) (p q:Option Addr) (n c m k:Nat),qL w b->A (z7 p n c) b->F (z7 q m k) b->qJ 7 #[z7 p n c,z7 q m k] b (ze #[zg zt,zj zm 0])))
 (a3:Hid (∀(b:zA) (p q:Option Addr) (n c m k:Nat),qL w b->A (z7 p n c) b->F (z7 q m k) b->zC zF 15 #[z7 p n c,z7 q m k] b λe w'=>∃p n c,e=zo (ze #[z7 p n c,zj zm 0])/\zB b.heap.size b w'/\SdL (z7 p n c) (rs 1) w'))
 (a7:Hid (∀(b:zA) (p q:Option Addr) (n c m k:Nat),qL w b->A (z7 p n c) b->G (z7 q m k) b->qJ 8 #[z7 p n c,z7 q m k] b (ze #[zg zt,zj zm 0])))
 (a6:Hid (∀(b:zA) (p q:Option Addr) (n c m k:Nat),qL w b->A (z7 p n c) b->G (z7 q m k) b->zC zF 16 #[z7 p n c,z7 q m k] b λe w'=>∃p n c,e=zo (ze #[zh #[z8 ⟨#[49]⟩,z8 ⟨#[48]⟩,z8 ⟨#[48]⟩,z7 p n c],zg zt,zj zm 0])/\zB b.heap.size b w'/\SdL (z7 p n c) (rs 2) w'))
 (ai:Hid (∀b:zA,qL w b->zC zF 18 #[z8 ⟨#[49]⟩] b λe w'=>∃v:SlT,e=zo (slV v)/\zB b.heap.size b w'/\SdL (slV v) (rs 1) w'))
 (aj:Hid (∀b:zA,qL w b->zC zF 18 #[z8 ⟨#[50]⟩] b λe w'=>∃v:SlT,e=zo (slV v)/\zB b.heap.size b w'/\SdL (slV v) (rs 2) w'))
 (ag:Hid (∀(b:zA) (u v:Value),qL w b->SdL u (rs 1) b->SdL v (rs 1) b->qJ 17 #[u,v] b (zg zt)))
 (ak:Hid (∀(b:zA) (u v:Value),qL w b->SdL u (rs 2) b->SdL v (rs 2) b->qJ 19 #[zh #[z8 ⟨#[49]⟩,z8 ⟨#[48]⟩,z8 ⟨#[48]⟩,u],zh #[z8 ⟨#[49]⟩,z8 ⟨#[48]⟩,z8 ⟨#[48]⟩,v]] b (zg zt))):
 qJ 5 #[] w (zg zt):=by
 go_enter Tryz.func5,Tryz.ntmps5;go_wp21;refine(a0 w (zM _ _)).mono ?_;rintro e an ⟨O,N,M,rfl,f,y⟩;have E:=hid (⟨f,y⟩:_/\_);clear f y a0;go_wp21;refine(a1 an E.1).mono ?_;rintro e ao ⟨aa,a9,a8,rfl,f,y⟩;have C:=hid (⟨E.1.trans (f.mono E.1.size),K _ _ _ E.2 f,y⟩:_/\_/\_);clear f y a1 E;go_wp21;refine(a2 ao C.1).mono ?_;rintro e ap ⟨ad,ac,ab,rfl,f,y⟩;have o:=hid (⟨C.1.trans (f.mono C.1.size),K _ _ _ C.2.1 f,ae _ _ _ C.2.2 f,y⟩:_/\_/\_/\_);clear f y a2 C;go_wp21;refine zzM (a5 ap O aa N M a9 a8 o.1 o.2.1 o.2.2.1) λaq f=>?_;have x:=hid (⟨o.1.trans (f.mono o.1.size),K _ _ _ o.2.1 f,ae _ _ _ o.2.2.1 f,Y _ _ _ o.2.2.2 f⟩:_/\_/\_/\_);clear f a5 o;go_wp21;refine(a3 aq O aa N M a9 a8 x.1 x.2.1 x.2.2.1).mono ?_;rintro e ar ⟨R,Q,P,rfl,f,t⟩;have r:=hid (⟨x.1.trans (f.mono x.1.size),K _ _ _ x.2.1 f,Y _ _ _ x.2.2.2 f,t⟩:_/\_/\_/\_);clear f t a3 x;go_wp21;refine zzM (a7 ar O ad N M ac ab r.1 r.2.1 r.2.2.1) λau f=>?_;have z:=hid (⟨r.1.trans (f.mono r.1.size),K _ _ _ r.2.1 f,Y _ _ _ r.2.2.1 f,r.2.2.2.below f⟩:_/\_/\_/\_);clear f a7 r;go_wp21;refine(a6 au O ad N M ac ab z.1 z.2.1 z.2.2.1).mono ?_;rintro e af ⟨J,I,H,rfl,f,t⟩;obtain⟨L,X⟩:=zzX (af.alloc (zn #[z8 ⟨#[49]⟩,z8 ⟨#[48]⟩,z8 ⟨#[48]⟩,z7 J I H] 53));obtain⟨T,Z⟩:=hbxU X;have W:=f.trans (T.mono f.size)
 have l:=hid (⟨z.1.trans (W.drew.mono z.1.size),z.2.2.2.below W.drew,t.below T.drew,Z⟩:qL w L.drew/\SdL (z7 R Q P) (rs 1) L.drew/\SdL (z7 J I H) (rs 2) L.drew/\L.drew.heap[af.heap.size]? =_);have a4:=hid X.symm;clear f t a6 z X T Z W;go_wp21;rw[a4.out];clear a4;refine zc4 (λ(h:SlT×SlT) am=>([zj zm 0,zj zm 0,zj zm 0,zj zm 0,zj zm 0,zg zt,zg zt,zg zt,zg zt,zg zt,z7 R Q P,z7 h.1.1 h.1.2.1 h.1.2.2,zg zt,zg zt,zg zt,zg zt,zg zt,zg zt,zg zt,zg zt,zg zt,zh #[z8 ⟨#[49]⟩,z8 ⟨#[48]⟩,z8 ⟨#[48]⟩,z7 J I H],z7 h.2.1 h.2.2.1 h.2.2.2,zh #[z8 ⟨#[49]⟩,z8 ⟨#[48]⟩,z8 ⟨#[48]⟩,z7 h.2.1 h.2.2.1 h.2.2.2],zg zt,zg zt,zg zt]:List Value)[am]?.getD zv) (AwkS L.drew) (by kernel_rfl) (by kernel_rfl) ((zp,0,0),(zp,0,0)) ⟨zM _ _,λa=>(by cases a),λa=>(by cases a)⟩ λh=>?_;refine qB (zj zm 0) (λg d a=>a.step 0 (by decide) (by decide)) ?_;refine qB (zj zm 0) (λg d a=>a.step 1 (by decide) (by decide)) ?_;refine qB (zj zm 0) (λg d a=>a.step 2 (by decide) (by decide)) ?_;simp only[zzQ];refine qB (zj zm 0) (λg d a=>a.step 3 (by decide) (by decide)) ?_;refine qB (zj zm 0) (λg d a=>a.step 4 (by decide) (by decide)) ?_;refine qB (zg zt) (λg d a=>a.step 5 (by decide) (by decide)) ?_;simp only[zzQ]
 refine qB (zg zt) (λg d a=>a.step 6 (by decide) (by decide)) ?_;refine qB (zg zt) (λg d a=>a.step 7 (by decide) (by decide)) ?_;refine qB (zg zt) (λg d a=>a.step 8 (by decide) (by decide)) ?_;simp only[zzQ];refine qB (zg zt) (λg d a=>a.step 9 (by decide) (by decide)) ?_;refine qB (z7 R Q P) (λg d a=>a.step 10 (by decide) (by decide)) ?_;simp only[zzQ]
 refine zdc (z7 h.1.1 h.1.2.1 h.1.2.2) (by rfl) (by rfl) (λg d i a S B=>by
  have al:=i.self;have h12:=i.no (j:=12) i.self (by kernel_rfl);have s:=ai d (l.1.trans (a.bel.mono l.1.size));go_simp;refine s.mono ?_;rintro e w' ⟨v,rfl,f,t⟩;refine⟨_,rfl,B (v,h.2) w' (λD j=>?_) ((a.next f).got1 t)⟩
  match D,j with
  |0,_|1,_|2,_|3,_|4,_|5,_|6,_|7,_|8,_|9,_|10,_|13,_|14,_|15,_|16,_|17,_|18,_|19,_|20,_|21,_|22,_|23,_|24,_|25,_|26,_=>rfl
  |11,j=>rw[al] at j;cases j
  |12,j=>rw[h12] at j;cases j
  |_+27,_=>rfl) ?_
 try simp only[zzQ]
 refine zbv (zg zt) (by rfl) (by rfl) (λg d i a S B=>by
  have s:=ag d (z7 R Q P) (slV h.1) (l.1.trans (a.bel.mono l.1.size)) (l.2.1.below a.bel) (a.s1 (i.done 11 (by kernel_rfl)));simp only[slV] at s;go_simp;refine zzM s λw' f=>?_;exact⟨_,rfl,B _ ((a.next f).step 12 (by decide) (by decide))⟩) ?_
 refine qB (zg zt) (λg d a=>a.step 13 (by decide) (by decide)) ?_;refine qB (zg zt) (λg d a=>a.step 14 (by decide) (by decide)) ?_;simp only[zzQ];refine qB (zg zt) (λg d a=>a.step 15 (by decide) (by decide)) ?_;refine qB (zg zt) (λg d a=>a.step 16 (by decide) (by decide)) ?_;refine qB (zg zt) (λg d a=>a.step 17 (by decide) (by decide)) ?_;simp only[zzQ];refine qB (zg zt) (λg d a=>a.step 18 (by decide) (by decide)) ?_;refine qB (zg zt) (λg d a=>a.step 19 (by decide) (by decide)) ?_;refine qB (zg zt) (λg d a=>a.step 20 (by decide) (by decide)) ?_;simp only[zzQ];refine qB (zh #[z8 ⟨#[49]⟩,z8 ⟨#[48]⟩,z8 ⟨#[48]⟩,z7 J I H]) (λg d a=>a.step 21 (by decide) (by decide)) ?_ (hy:=λg d i a=>by obtain⟨aw,ax,ay,az⟩:=yap (zac a.bel _ _ _ _ l.2.2.2);go_simp);simp only[zzQ]
 refine zdc (z7 h.2.1 h.2.2.1 h.2.2.2) (by rfl) (by rfl) (λg d i a S B=>by
  have U:=i.self;have V:=i.no (j:=23) i.self (by kernel_rfl);have s:=aj d (l.1.trans (a.bel.mono l.1.size));go_simp;refine s.mono ?_;rintro e w' ⟨v,rfl,f,t⟩;refine⟨_,rfl,B (h.1,v) w' (λD j=>?_) ((a.next f).got2 t)⟩
  match D,j with
  |0,_|1,_|2,_|3,_|4,_|5,_|6,_|7,_|8,_|9,_|10,_|11,_|12,_|13,_|14,_|15,_|16,_|17,_|18,_|19,_|20,_|21,_|24,_|25,_|26,_=>rfl
  |22,j=>rw[U] at j;cases j
  |23,j=>rw[V] at j;cases j
  |_+27,_=>rfl) ?_
 refine qB (zh #[z8 ⟨#[49]⟩,z8 ⟨#[48]⟩,z8 ⟨#[48]⟩,z7 h.2.1 h.2.2.1 h.2.2.2]) (λg d a=>a.step 23 (by decide) (by decide)) ?_;simp only[zzQ]
 refine zbv (zg zt) (by rfl) (by rfl) (λg d i a S B=>by
  have V:=i.done 23 (by kernel_rfl);have U:g 22=zt:=by
   cases e:g 22 with
   |true=>rfl
   |false=>have:=i.no (j:=23) e (by kernel_rfl);rw[V] at this;cases this
  have s:=ak d (z7 J I H) (slV h.2) (l.1.trans (a.bel.mono l.1.size)) (l.2.2.1.below a.bel) (a.s2 (U));simp only[slV] at s;go_simp;refine zzM s λw' f=>?_;exact⟨_,rfl,B _ ((a.next f).step 24 (by decide) (by decide))⟩) ?_
 refine qB (zg zt) (λg d a=>a.step 25 (by decide) (by decide)) ?_;refine qB (zg zt) (λg d a=>a.step 26 (by decide) (by decide)) ?_;simp only[zzQ];refine ze1 λg av i a=>?_;have ah:=hid (l.1.trans (a.bel.mono l.1.size));clear a i l;go_wp21;go_ret;exact⟨rfl,ah.out⟩
def allK (f:Int->Bool) (S:Nat->Int):Nat->Bool
 |0=>zt
 |k+1=>allK f S k&&f (S k)
theorem yjb (p:Option Addr) (cap:Nat) (l:List Pq) (ar:l.length<=4000) (x y z:List UInt8) (s:Option Addr) (md o:Nat) (S:Nat->Int) (u:Nat) (al:u=65\/u=66) (f:Int->Bool) (w:zA)
 (ag:Hid (∀(i:Nat) (r:Pq),l[i]? =zq r->∀(b:zA) (j k m:Option Addr) (d g h t c1 c2:Nat),qL w b->MrkP (z7 j d t) (z7 k g c1) (z7 m h c2) r b->
   qJ 82 #[zh #[St x,St y,St z,z7 s md o],zh #[z7 j d t,z7 k g c1,z7 m h c2]] b (ze #[zj zm (S i),zj zm 0])))
 (ad:Hid (∀(aa:Int) (b:zA),zC zF u #[zj zm aa] b λe w'=>e=zo (zg (f aa))/\zB b.heap.size b w'))
 (af:Hid (RowMk p l w)):
 qJ 64 #[zh #[St x,St y,St z,z7 s md o],z7 p l.length cap,.func (.func u) #[] #[]] w (ze #[zg (allK f S l.length),zj zm 0]):=by
 obtain⟨n,A⟩:=zzX (allK f S);have P:n 0=zt:=by rw[A];rfl
 have ac:=hid (show ∀a,n (a+1)=(n a&&f (S a)) from λa=>by rw[A];rfl);rw[<-A];have Z:=hid P;clear A P;obtain⟨am,N⟩:=zzX (w.alloc (zn #[St x,St y,St z,z7 s md o] 53));obtain⟨a0,O⟩:=hbxU N;have W:=hid O;have R:=hid a0;have Y:=hid N.symm;have ap:l.length<=9223372036854775807:=by omega
 clear N a0 O;go_enter Tryz.func64,Tryz.ntmps64;go_wp21;have a9:=Y.out;rw[show w.alloc (zn #[z8 ⟨x.toArray⟩,z8 ⟨y.toArray⟩,z8 ⟨z.toArray⟩,z7 s md o] 53)=am from a9];clear a9 Y;go_loopw [8,15] (λah i wr=>∃(a:Nat),a<=l.length/\ah=zg (n a)/\i=zj zm (a:Int)/\Hid (qL w wr/\wr.heap[w.heap.size]? =zq (zn #[St x,St y,St z,z7 s md o] 53 (0,0))))
  (λ_ i _=>l.length-(zL i).toNat)
 case atStart=>exact⟨0,zR _,by rw[Z.out],rfl,hid ⟨R.out,W.out⟩⟩
 case round=>
  clear R W Z;obtain⟨a,aq,rfl,rfl,J⟩:=hrel;obtain⟨c,H⟩:=J.out;by_cases hlt:a<l.length
  ·obtain⟨r,M⟩:∃r,l[a]? =zq r:=⟨_,yB hlt⟩
   obtain⟨ao,au,u0,u1,u2,rfl,t,c1,c2,q⟩:=(af.below c) a r M;obtain⟨j,d,E,rfl⟩:=q.x.any;obtain⟨k,g,F,rfl⟩:=q.y.any;obtain⟨m,h,G,rfl⟩:=q.z.any;obtain⟨ab,B⟩:=zzX (wr.alloc (zn #[z7 j d E,z7 k g F,z7 m h G] 99));obtain⟨a1,Q⟩:=hbxU B;have C:=hid (c.trans (a1.mono c.size));have V:=hid (ag a r M ab j k m d g h E F G C (q.below a1));have D:=hid (zac a1 _ _ _ _ H);obtain⟨a5,a6,a7,a8⟩:=yap D.out;obtain⟨a2,a3,a4, -, -, -⟩:=zah Q;rw[B] at a5 a6 a7 a8 a2 a3 a4;have X:=hid B.symm;have T:=hid (ac a);have U:=hid (ad (S a));clear B a1 Q c H J q M;generalize S a=av at*
   generalize n a=ai at*
   go_wp21;rw[show wr.alloc (zn #[z7 j d E,z7 k g F,z7 m h G] 99)=ab from X.out];clear X t c1 c2 a5 a6 a7 a8 a2 a3 a4;refine zzM V.out λan K=>?_;have v:=qT C K;have I:=hid (zac K _ _ _ _ D.out);clear K V C D;cases ai
   ·go_wp21
    go_roundw
    case rel=>exact⟨a+1,by omega,by rw[T.out];rfl,by go_num,hid ⟨v.out,I.out⟩⟩
    case measure=>simp[zL];omega
   ·rcases al with rfl|rfl
    all_goals
     go_wp21;refine zzM (U an) λaw L=>?_;have aj:=hid (v.trans (L.mono v.size));have ak:=hid (zac L _ _ _ _ I.out);clear L v I U;go_wp21;go_roundw
     case rel=>exact⟨a+1,by omega,by rw[T.out];simp,by go_num,hid ⟨aj.out,ak.out⟩⟩
     case measure=>simp[zL];omega
  ·obtain rfl:a=l.length:=by omega
   have ae:=hid c;clear c H J;go_wp21;go_ret2;exact⟨rfl,ae.out⟩
theorem ygj (s:Int) (w:zA):qJ 65 #[zj zm s] w (zg (decide (s<=0))):=by
 go_enter Tryz.func65,Tryz.ntmps65;go_wp21;go_ret;exact⟨rfl,zM _ _⟩
theorem ygk (s:Int) (w:zA):qJ 66 #[zj zm s] w (zg (decide (0<=s))):=by
 go_enter Tryz.func66,Tryz.ntmps66;go_wp21;go_ret;exact⟨rfl,zM _ _⟩
theorem zuc (p D:Option Addr) (n C cap A:Nat) (x y z:List UInt8) (f:Option Addr) (md e:Nat) (a b:Bool) (w:zA)
 (t:Hid (∀d:zA,qL w d->qJ 64 #[zh #[St x,St y,St z,z7 f md e],z7 p n cap,.func (.func 65) #[] #[]] d (ze #[zg a,zj zm 0])))
 (u:Hid (∀d:zA,qL w d->qJ 64 #[zh #[St x,St y,St z,z7 f md e],z7 D C A,.func (.func 66) #[] #[]] d (ze #[zg b,zj zm 0]))):
 qJ 36 #[zh #[St x,St y,St z,z7 f md e],z7 p n cap,z7 D C A] w (ze #[zg (a&&b),zj zm 0]):=by
 obtain⟨E,m⟩:=zzX (w.alloc (zn #[St x,St y,St z,z7 f md e] 53));obtain⟨v,o⟩:=hbxU m;have r:=hid o;have g:=hid v;obtain⟨i,j,k,l⟩:=yap o;rw[m] at i j k l;have s:=hid m.symm;clear m v o;go_enter Tryz.func36,Tryz.ntmps36;go_wp21;have B:=s.out;rw[show w.alloc (zn #[z8 ⟨x.toArray⟩,z8 ⟨y.toArray⟩,z8 ⟨z.toArray⟩,z7 f md e] 53)=E from B];clear B s i j k l;refine zzM (t E g.out) λF c=>?_;have h:=hid (g.trans (c.mono g.size));obtain⟨i,j,k,l⟩:=yap (zac c _ _ _ _ r.out);clear c g r t;go_wp21;clear i j k l;refine zzM (u F h.out) λG c=>?_;have q:=hid (h.trans (c.mono h.size));clear c h u;cases a
 ·go_wp21
  go_ret2;exact⟨rfl,q.out⟩
 ·go_wp21
  go_ret2;exact⟨by simp,q.out⟩
theorem ydo (p D:Option Addr) (n C cap m:Nat) (x y z:List UInt8) (e:Option Addr) (md c:Nat) (j k:Nat) (r:Bool) (w:zA)
 (l:w.cell? ⟨j,0,zp⟩=zq (z7 p n cap)) (c1:w.cell? ⟨k,0,zp⟩=zq (z7 D C m))
 (h:Hid (∀i:zA,qL w i->qJ 36 #[zh #[St x,St y,St z,z7 e md c],z7 p n cap,z7 D C m] i (ze #[zg r,zj zm 0]))):
 qJ 35 #[zh #[St x,St y,St z,z7 e md c],zf (zq ⟨j,0,zp⟩),zf (zq ⟨k,0,zp⟩)] w (ze #[zg r,zj zm 0]):=by
 obtain⟨E,d⟩:=zzX (w.alloc (zn #[St x,St y,St z,z7 e md c] 53));obtain⟨b,f⟩:=hbxU d;have a:=hid b;obtain⟨o,q,s,t⟩:=yap f;have A:=zai b l;have B:=zai b c1;rw[d] at o q s t A B;have g:=hid d.symm;clear d b f l c1;go_enter Tryz.func35,Tryz.ntmps35;go_wp21;have u:=g.out;rw[show w.alloc (zn #[z8 ⟨x.toArray⟩,z8 ⟨y.toArray⟩,z8 ⟨z.toArray⟩,z7 e md c] 53)=E from u];clear u g o q s t A B;refine zzM (h E a.out) λG v=>?_;have F:=hid (a.trans (v.mono a.size));clear v a h;go_wp21;go_ret2;exact⟨rfl,F.out⟩
theorem yjc (p g q h:Option Addr) (n f m d cap b c a:Nat) (w:zA):zC zF 37 #[z7 p n cap,z7 g f b,z7 q m c,z7 h d a] w λe w'=>e=zo (.func (.func 67) #[] #[zf (zq ⟨w.heap.size,0,zp⟩),zf (zq ⟨w.heap.size+1,0,zp⟩),zf (zq ⟨w.heap.size+2,0,zp⟩),zf (zq ⟨w.heap.size+3,0,zp⟩)])/\zB w.heap.size w w'/\w'.cell? ⟨w.heap.size,0,zp⟩=zq (z7 p n cap):=by
 have j:=(((Boxed.new w 34 (z7 p n cap)).alloc (zn #[z7 g f b] 34)).alloc (zn #[z7 q m c] 81)).alloc (zn #[z7 h d a] 81);have k:qL w ((((w.alloc (zn #[z7 p n cap] 34)).alloc (zn #[z7 g f b] 34)).alloc (zn #[z7 q m c] 81)).alloc (zn #[z7 h d a] 81)):=((((zM _ w).alloc (zN _) _).alloc (by simp) _).alloc (by simp;omega) _).alloc (by simp;omega) _;have i:=hid (⟨j.cell,k⟩:_/\_);clear j k;go_enter Tryz.func37,Tryz.ntmps37;go_wp21;go_ret;exact⟨rfl,i.2,i.1⟩
theorem yks (L:Nat) (aa:1<=L) (u b2 T U:Nat) (p:Option Addr) (cap n:Nat) (a9:2<=n) (ac:n<=32) (X d Z:Nat->List UInt8) (D:Nat->Value) (a0:∀i,∃q m c,D i=z7 q m c) (s:zA->Prop)
 (H:∀b,s b->b.cell? ⟨u,0,zp⟩=zq (z7 p n cap)/\RowHf p n X d Z D b):
 zor False Fence.wide L zF 67 #[zf (zq ⟨u,0,zp⟩),zf (zq ⟨b2,0,zp⟩),zf (zq ⟨T,0,zp⟩),zf (zq ⟨U,0,zp⟩)] s (λt args _=>args= #[zh #[St (X t),St (d t),St (Z t),D t],zj zm 0]) 2:=by
 intro ad S a5 b F E B I A;refine callsIn_of_wp Tryz.func67 rfl trivial ?_ rfl;simp only[Tryz.ntmps67,List.size_toArray,List.length_cons,List.length_nil,Nat.reduceAdd,Nat.reduceSub,yU,yV,List.push_toArray,yX,List.nil_append,List.cons_append];have o:=hid λa b j=>H b (F a b j);clear H F;have R:=hid I;clear I;have P:=hid E;clear E;have g:=hid A;clear A;have N:=hid B;clear B;have W:=(o _ _ g.out).1;gi_wp2_with fail;clear W;gi_loopw [23] (λi wr=>∃(a:Nat),a<=2/\i=zj zm (a:Int)/\Hid (S a wr))
  (λi _=>n-(zL i).toNat)
 case atStart=>exact⟨0,zR _,rfl,g⟩
 case round=>
  clear g;obtain⟨a,ab,rfl,e⟩:=hrel;by_cases hlt:a<2
  ·have a2:a<n:=by omega
   obtain⟨a7,ae,rfl,V,c1,c2,v⟩:=(o _ _ e.out).2 a a2;obtain⟨a4,a3,Y,J⟩:=a0 a;have h:=hid λb j=>R a _ b j hlt rfl;rw[J] at v h;obtain⟨M,f⟩:=zzX (wr.alloc (zn #[St (X a),St (d a),St (Z a),z7 a4 a3 Y] 53));obtain⟨a1,l⟩:=hbxU f;have r:=P a wr M e a1;obtain⟨w,x,y,z⟩:=yap l;rw[f] at w x y z;obtain⟨fn,tmps,assign,body,K,k⟩:=h M r;rw[f] at K k;clear f a1 l J r h e;generalize X a=af at*;generalize d a=ag at*;generalize Z a=ah at*
   gi_wp2_with fail;refine k.mono ?_;clear V c1 c2 v w x y z K k;rintro a8 a6 (⟨rfl,C⟩|⟨rfl,G⟩)
   ·have O:=hid C;clear C
    gi_wp2_with fail;go_roundw
    case rel=>exact⟨a+1,by omega,by go_num,O⟩
    case measure=>simp[zL];omega
   ·have Q:=hid G;clear G
    gi_wp2_with fail;refine bodyPost_ret (results_none rfl _ _ _) rfl ?_;exact⟨⟨_,rfl⟩,.inr Q.out⟩
  ·obtain rfl:a=2:=by omega
   exact(N _ e.out).elim
@[local go_sem] theorem run_store_fn {P:Program} {w:zA} {m:Mode} (a:Addr) (fn:Fn) (first captured:Array Value):(store a (.func fn first captured) m).run P w=stored P w a (.func fn first captured) m:=run_store P w a _ m rfl
structure SpmS (w:zA) (b:Nat) (vx vy:Value) (W:zA):Prop where
 bel:qL w W
 r1:W.heap[w.heap.size]? =zq (zn #[St [],St [],St [],z7 zp 0 0] 53 (0,0))
 r2:W.heap[w.heap.size+1]? =zq (zn #[zg zu] 4 (0,0))
 r3:W.heap[w.heap.size+2]? =zq (zn #[zj zm 0] 29 (0,0))
 lo:w.heap.size+3<=b
 bx:W.heap[b]? =zq (zn #[vx] 81 (0,0))
 by':W.heap[b+1]? =zq (zn #[vy] 81 (0,0))
 fn:W.cell? ⟨b+2,0,zp⟩=zq (.func (.func 35) #[] #[zf (zq ⟨b,0,zp⟩),zf (zq ⟨b+1,0,zp⟩)])
theorem SpmS.keep {w:zA} {b:Nat} {e f:Value} {c d:zA} (h:SpmS w b e f c) (a:CellsKept c d) (g:zB w.heap.size c d):SpmS w b e f d:=
 ⟨h.bel.trans g,a _ _ _ _ h.r1,a _ _ _ _ h.r2,a _ _ _ _ h.r3,h.lo,a _ _ _ _ h.bx,a _ _ _ _ h.by',a.cell h.fn⟩
theorem SpmS.next {w:zA} {b:Nat} {e f:Value} {a c:zA} (h:SpmS w b e f a) (d:qL a c):SpmS w b e f c:=h.keep (zac d) (d.mono h.bel.size)
theorem zgs {W:zA} {A:Nat} {a:Value} {t:TypeId} (h:W.heap[A]? =zq (zn #[a] t (0,0))):W.cell? ⟨A,0,zp⟩=zq a/\W.frozen? ⟨A,0,zp⟩=zu:=
 ⟨by rw[zJ h];rfl,by simp[World.frozen?,h]⟩
theorem zvr (p a9:Option Addr) (n a8 cap a1:Nat) (X y Z:Nat->List UInt8) (D:Nat->Value) (be:∀i,∃q m c,D i=z7 q m c) (ac:Value->Value->zA->Prop) (w:zA)
 (b':Hid (∀a:zA,qL w a->zC zF 34 #[z7 p n cap,z7 a9 a8 a1] a λe w'=>∃l j h s r o,e=zo (ze #[z7 l j h,z7 s r o,zj zm 0])/\zB a.heap.size a w'/\ac (z7 l j h) (z7 s r o) w'))
 (L:Hid (∀v u a af,ac v u a->CellsKept a af->a.heap.size<=af.heap.size->ac v u af))
 (b3:Hid (∀W b2 Y cv,zor False Fence.wide 2 zF 67 #[zf (zq ⟨W,0,zp⟩),zf (zq ⟨b2,0,zp⟩),zf (zq ⟨Y,0,zp⟩),zf (zq ⟨cv,0,zp⟩)] (λa=>qL w a/\a.cell? ⟨W,0,zp⟩=zq (z7 p n cap)) (λt args _=>args= #[zh #[St (X t),St (y t),St (Z t),D t],zj zm 0]) 2))
 (b8:Hid (∀k,k<2->∀(a:zA) (l s:Option Addr) (j h r o:Nat),qL w a->ac (z7 l j h) (z7 s r o) a->qJ 36 #[zh #[St (X k),St (y k),St (Z k),D k],z7 l j h,z7 s r o] a (ze #[zg (decide (k=1)),zj zm 0]))):
 qJ 16 #[z7 p n cap,z7 a9 a8 a1] w (ze #[zh #[St (X 1),St (y 1),St (Z 1),D 1],zg zt,zj zm 0]):=by
 refine(callsIn_wide (n:=3)).1 ?_;refine callsIn_of_wp_marks Tryz.func16 rfl trivial ?_ rfl;simp only[Tryz.ntmps16,List.size_toArray,List.length_cons,List.length_nil,Nat.reduceAdd,Nat.reduceSub,yU,yV,List.push_toArray,yX,List.nil_append,List.cons_append];obtain⟨cm,av⟩:=zzX (w.alloc (zn #[St [],St [],St [],z7 zp 0 0] 53));obtain⟨W,bx⟩:=hbxU av;have bp:cm.heap.size=w.heap.size+1:=by rw[av];simp
 obtain⟨cn,aw⟩:=zzX (cm.alloc (zn #[zg zu] 4));obtain⟨b2,S⟩:=hbxU aw;have bq:cn.heap.size=w.heap.size+2:=by rw[aw];simp[bp]
 obtain⟨bt,ai⟩:=zzX (cn.alloc (zn #[zj zm 0] 29));obtain⟨Y,az⟩:=hbxU ai;have cl:bt.heap.size=w.heap.size+3:=by rw[ai];simp[bq]
 rw[bp] at S;rw[bq] at az;have bz:=(W.trans (b2.mono (by omega))).trans (Y.mono (by omega));have b:=hid (⟨bz,zac Y _ _ _ _ (zac b2 _ _ _ _ bx),zac Y _ _ _ _ S,az,cl⟩:_/\_/\_/\_/\_);rw[aw,av] at ai;have U:=hid ai.symm;clear av aw ai W b2 Y bx S az bp bq cl bz;gi_wp2_with fail;rw[show((w.alloc (zn #[z8 ⟨#[]⟩,z8 ⟨#[]⟩,z8 ⟨#[]⟩,z7 zp 0 0] 53)).alloc (zn #[zg zu] 4)).alloc (zn #[zj zm 0] 29)=bt from U.out];clear U;refine⟨trivial,(callsIn_wide.2 (b' bt b.1)).mono ?_⟩;rintro e f ⟨l,j,h,s,r,o,rfl,d,au⟩;have df:w.heap.size+3<=f.heap.size:=by have:=d.size;have:=b.2.2.2.2;omega
 obtain⟨V,bg⟩:=zzX f.heap.size;obtain⟨co,aj⟩:=zzX (f.alloc (zn #[z7 l j h] 81));obtain⟨c1,a'⟩:=hbxU aj;have br:co.heap.size=V+1:=by rw[aj,bg];simp
 obtain⟨cp,ak⟩:=zzX (co.alloc (zn #[z7 s r o] 81));obtain⟨c2,b0⟩:=hbxU ak;have bs:cp.heap.size=V+2:=by rw[ak];simp[br]
 obtain⟨ay,a7⟩:=zzX (cp.alloc (zn #[.func (.func 35) #[] #[zf (zq ⟨V,0,zp⟩),zf (zq ⟨V+1,0,zp⟩)]] 85));obtain⟨a0,b1⟩:=hbxU a7;have t3:ay.heap.size=V+3:=by rw[a7];simp[bs]
 rw[<-bg] at a';rw[br] at b0;rw[bs] at b1;have b4:=b.1.trans (d.mono b.1.size);have ag:qL f ay:=(c1.trans (c2.mono (by omega))).trans (a0.mono (by omega));have ax:=zac (d.trans (ag.mono d.size));have ao:=hid (show SpmS w V (z7 l j h) (z7 s r o) ay from⟨b4.trans (ag.mono b4.size),ax _ _ _ _ b.2.1,ax _ _ _ _ b.2.2.1,ax _ _ _ _ b.2.2.2.1,by omega,zac a0 _ _ _ _ (zac c2 _ _ _ _ a'),zac a0 _ _ _ _ b0,(zgs b1).1⟩);have c0:=hid (L _ _ _ _ au (zac ag) ag.size);have a2:=(zgs ao.bx).1;have a3:=(zgs ao.by').1;rw[a7,ak,aj] at a2 a3;rw[ak,aj] at a7;have c5:=hid a7.symm;have c3:=hid t3;clear aj ak a7 c1 c2 a0 a' b0 b1 br bs t3 b4 ag ax d au b b';subst bg;gi_wp2_with fail;rw[c5.out];clear c5 a2 a3;refine⟨trivial,(callsIn_wide.2 (yjc p a9 l s n a8 j r cap a1 h o ay)).mono ?_⟩;rintro e am ⟨rfl,d,A⟩;have ad:=ao.next d;have b6:=hid (L _ _ _ _ c0 (zac d) d.size);have bj:=c3.out;rw[bj] at A;rw[bj];have b5:=hid A;clear d A ao c0 bj c3;gi_wp2_with fail
 refine zru (n:=3) (B:=w.heap.size) rfl (by omega) rfl trivial (enters_of Tryz.func67 (by kernel_rfl) rfl) (b3 (f.heap.size+3) (f.heap.size+3+1) (f.heap.size+3+2) (f.heap.size+3+3)) (λk args a g=>by subst g;rfl) ad.bel.size
  (λk a=>k<=1/\SpmS w f.heap.size (z7 l j h) (z7 s r o) a/\ac (z7 l j h) (z7 s r o) a/\a.cell? ⟨f.heap.size+3,0,zp⟩=zq (z7 p n cap))
  (λc _ a=>c=.ret/\zB w.heap.size w a/\a.heap[w.heap.size]? =zq (zn #[St (X 1),St (y 1),St (Z 1),D 1] 53 (0,0))/\a.heap[w.heap.size+1]? =zq (zn #[zg zt] 4 (0,0))/\a.heap[w.heap.size+2]? =zq (zn #[zj zm 0] 29 (0,0)))
  (λk a af g A d=>⟨g.1,g.2.1.keep A d,L _ _ _ _ g.2.2.1 A d.size,A.cell g.2.2.2⟩) (λc k a af g A d=>⟨g.1,g.2.1.trans d,A _ _ _ _ g.2.2.1,A _ _ _ _ g.2.2.2.1,A _ _ _ _ g.2.2.2.2⟩) (λk a g=>⟨g.2.1.bel,g.2.2.2⟩) (λa g=>by omega) ⟨by omega,ad,b6.out,b5.out⟩
  (λk _ b9 a=>∃H:Nat,a.heap[H]? =zq (zn #[St (X k),St (y k),St (Z k),D k] 53 (0,0))/\w.heap.size+3<=H/\b9=({tmps:= #[z7 p n cap,z7 a9 a8 a1,zv,zv,zf (zq {block:=w.heap.size,off:=0}),zf (zq {block:=w.heap.size+1,off:=0}),zf (zq {block:=w.heap.size+1+1,off:=0}),zf (zq {block:=f.heap.size,off:=0}),zf (zq {block:=f.heap.size+1,off:=0}),zj zm 0,zf (zq {block:=f.heap.size+1+1,off:=0}),zf (zq {block:=H,off:=0}),zj zm 0,zv,zv,ze #[z7 l j h,z7 s r o,zj zm 0],z7 p n cap,z7 a9 a8 a1,ze #[z7 l j h,z7 s r o,zj zm 0],z7 l j h,z7 s r o,zj zm 0,zj zm 0,zg zu,zv,zv,Value.func (Fn.func 35) #[] #[zf (zq {block:=f.heap.size,off:=0}),zf (zq {block:=f.heap.size+1,off:=0})],z7 p n cap,z7 a9 a8 a1,z7 l j h,z7 s r o,Value.func (Fn.func 67) #[] #[zf (zq {block:=f.heap.size+3,off:=0}),zf (zq {block:=f.heap.size+3+1,off:=0}),zf (zq {block:=f.heap.size+3+2,off:=0}),zf (zq {block:=f.heap.size+3+3,off:=0})],zh #[St (X k),St (y k),St (Z k),D k],zj zm 0,zv,zv,zv,zv,zv,zv,zv,zv,zv,zv,zv,zv,zv,zv,zv,zv,zv,zv,zv,zv,zv],defers:=[]}:Act))
  (λk _ b9 X y g A d=>let ⟨H,cw,cx,cy⟩:=g;⟨H,A _ _ _ _ cw,cx,cy⟩) ?assign ?body ?done ?stop
 case assign=>
  rintro cc k args a d9 c' d1 ⟨bi,C,a4,ah⟩ au rfl M;have cr:=hid M;clear M;obtain⟨cu,ar⟩:=zzX (a.alloc (zn #[St (X k),St (y k),St (Z k),D k] 53));obtain⟨b2,S⟩:=hbxU ar;have cs:=hid (⟨(za0 b2).from am.heap.size,C.next b2,L _ _ _ _ a4 (zac b2) b2.size,zai b2 ah,S,bi,show w.heap.size+3<=a.heap.size by have:=(Array.getElem?_eq_some_iff.1 C.r3).1;omega⟩:_/\_/\_/\_/\_/\_/\_);obtain⟨K,J,G,z⟩:=be k;have F:=hid z.symm;rw[z] at ar;have U:=hid ar.symm;clear C ah d1 b2 S ar a4 bi;rw[z];clear z;gi_wp2;have bc:=U.out;rw[show a.alloc (zn #[z8 ⟨(X k).toArray⟩,z8 ⟨(y k).toArray⟩,z8 ⟨(Z k).toArray⟩,z7 K J G] 53)=cu from bc];obtain⟨d2,d3,d4,d5,d6,d7,d8⟩:=cs.out;exact cr _ _ d2 ⟨d7,d3,d4,d5⟩ ⟨a.heap.size,d6,d8,by rw[<-F.out]⟩
 case body=>
  rintro cc k args b9 a c' ⟨dg,d0⟩ ⟨bi,C,a4,ah⟩ au ⟨H,aq,c9,rfl⟩;obtain⟨K,J,G,z⟩:=be k;have ab:=hid (ydo l s j r h o (X k) (y k) (Z k) K J G f.heap.size (f.heap.size+1) (decide (k=1)) a (zgs C.bx).1 (zgs C.by').1 (hid λct bf=>by
   have:=b8 k (by omega) ct l s j h r o (C.bel.trans (bf.mono C.bel.size)) (L _ _ _ _ a4 (zac bf) bf.size);rw[z] at this;exact this))
  have ba:=C.fn;have T:=hid (⟨C,a4,ah,aq,c9⟩:_/\_/\_/\_/\_);rw[z] at aq;obtain⟨a2,a3,bb,c8⟩:=yap aq;have F:=hid z;rw[z];clear C a4 ah aq d0 c9 b8 b3 z b5 ad b6;obtain⟨bu,O⟩:=zzX (X k);obtain⟨bv,P⟩:=zzX (y k);obtain⟨bw,Q⟩:=zzX (Z k);rw[<-O] at a2 ab⊢;rw[<-P] at a3 ab⊢;rw[<-Q] at bb ab⊢;have b7:=hid (⟨O,P,Q⟩:_/\_/\_);clear O P Q;gi_wp2_with fail;clear ba a2 a3 bb c8;refine⟨trivial,(CallsIn.inRound cc (callsIn_wide.2 ab.out)).mono ?_⟩;rintro e R ⟨rfl,d⟩;have b:=hid (⟨T.1.next d,L _ _ _ _ T.2.1 (zac d) d.size,zai d T.2.2.1,zac d _ _ _ _ T.2.2.2.1,T.2.2.2.2,d⟩:SpmS w f.heap.size (z7 l j h) (z7 s r o) R/\_/\_/\R.heap[H]? =zq (zn #[St (X k),St (y k),St (Z k),D k] 53 (0,0))/\w.heap.size+3<=H/\zB a.heap.size a R);clear d T ab;rcases(show k=0\/k=1 by omega) with rfl|rfl
  ·rw[decide_eq_false (show ¬((0:Nat)=1) by omega)]
   have an:=hid (⟨(za0 b.2.2.2.2.2).from am.heap.size,b.1,b.2.1,b.2.2.1⟩:_/\_/\_/\_);clear b b7 F;gi_wp2_with fail;exact⟨an.1,by omega,an.2.1,an.2.2.1,an.2.2.2⟩
  ·rw[decide_eq_true (show(1:Nat)=1 from rfl)]
   obtain⟨O,P,Q⟩:=b7.out;have bd:=b.2.2.2.1;rw[F.out,<-O,<-P,<-Q] at bd;obtain⟨a2,a3,bb,c8⟩:=yap bd;obtain⟨dh,bo,cj,ck⟩:=yap b.1.r1;have z0:∀x,R.frozen? ⟨w.heap.size,x,zp⟩=zu:=λx=>by simp[World.frozen?,b.1.r1]
   have db:=z0 0;have dc:=z0 1;have dd:=z0 2;have de:=z0 3;obtain⟨c6,W⟩:=zgs b.1.r2;obtain⟨c7,da⟩:=zgs b.1.r3;have cg:=zK (i:=0) b.1.r1 (St bu);have ch:=zK (i:=1) cg (St bv);have ci:=zK (i:=2) ch (St bw);have bn:=zK (i:=3) ci (z7 K J G);obtain⟨ae,a5⟩:=zzX ((((R.setCell ⟨w.heap.size,0,zp⟩ (St bu)).setCell ⟨w.heap.size,1,zp⟩ (St bv)).setCell ⟨w.heap.size,2,zp⟩ (St bw)).setCell ⟨w.heap.size,3,zp⟩ (z7 K J G));rw[<-a5] at bn;have bk:∀x,x≠w.heap.size->ae.heap[x]? =R.heap[x]? :=λx I=>by
    rw[a5,yE _ _ _ _ I,yE _ _ _ _ I,yE _ _ _ _ I,yE _ _ _ _ I]
   have ca:KeepsFrom am.heap.size a ae:=by
    rw[a5];exact((za0 b.2.2.2.2.2).from _).trans (((((KeepsOthers.setCell _ _ _).from _).trans ((KeepsOthers.setCell _ _ _).from _)).trans ((KeepsOthers.setCell _ _ _).from _)).trans ((KeepsOthers.setCell _ _ _).from _))
   have cd:qL w ae:=by
    rw[a5];exact(((b.1.bel.setCell (by exact zN _) _).setCell (by exact zN _) _).setCell (by exact zN _) _).setCell (by exact zN _) _
   obtain⟨ap,a6⟩:=zzX (ae.setCell ⟨w.heap.size+1,0,zp⟩ (zg zt));have ce:ap.heap[w.heap.size+1]? =zq (zn #[zg zt] 4 (0,0)):=by
    rw[a6];exact zK (i:=0) ((bk _ (by omega)).trans b.1.r2) _
   have bl:∀x,x≠w.heap.size+1->ap.heap[x]? =ae.heap[x]? :=λx I=>by rw[a6,yE _ _ _ _ I]
   obtain⟨E,N⟩:=zzX (ap.setCell ⟨w.heap.size+2,0,zp⟩ (zj zm 0));have cf:E.heap[w.heap.size+2]? =zq (zn #[zj zm 0] 29 (0,0)):=by
    rw[N];exact zK (i:=0) (((bl _ (by omega)).trans (bk _ (by omega))).trans b.1.r3) _
   have bm:∀x,x≠w.heap.size+2->E.heap[x]? =ap.heap[x]? :=λx I=>by rw[N,yE _ _ _ _ I]
   have cb:KeepsFrom am.heap.size a E:=by rw[N,a6];exact(ca.trans ((KeepsOthers.setCell _ _ _).from _)).trans ((KeepsOthers.setCell _ _ _).from _)
   have al:qL w E:=by rw[N,a6];exact(cd.setCell (by dsimp only;omega) _).setCell (by dsimp only;omega) _
   have aa:=hid (⟨cb,al,by rw[F.out,<-O,<-P,<-Q];exact((bm _ (by omega)).trans (bl _ (by omega))).trans bn,(bm _ (by omega)).trans ce,cf⟩:KeepsFrom am.heap.size a E/\zB w.heap.size w E/\E.heap[w.heap.size]? =zq (zn #[St (X 1),St (y 1),St (Z 1),D 1] 53 (0,0))/\E.heap[w.heap.size+1]? =zq (zn #[zg zt] 4 (0,0))/\E.heap[w.heap.size+2]? =zq (zn #[zj zm 0] 29 (0,0)));rw[a6,a5] at N;have U:=hid N.symm;clear cg ch ci bn bk bl bm ca cb cd al ce cf a5 a6 N b b7 F O P Q bd z0;gi_wp2_with fail;have bc:=U.out;rw[show(((((R.setCell ⟨w.heap.size,0,zp⟩ (z8 ⟨bu.toArray⟩)).setCell ⟨w.heap.size,1,zp⟩ (z8 ⟨bv.toArray⟩)).setCell ⟨w.heap.size,2,zp⟩ (z8 ⟨bw.toArray⟩)).setCell ⟨w.heap.size,3,zp⟩ (z7 K J G)).setCell ⟨w.heap.size+1,0,zp⟩ (zg zt)).setCell ⟨w.heap.size+1+1,0,zp⟩ (zj zm 0)=E from bc];exact⟨aa.1,rfl,aa.2.1,aa.2.2.1,aa.2.2.2.1,aa.2.2.2.2⟩
 case done=>
  rintro cq a cz g M;have:=g.1;omega
 case stop=>
  rintro cq c k a cz ⟨rfl,al,bo,cj,ck⟩ M;have c4:=hid (⟨al,ad.bel.size⟩:_/\_);obtain⟨K,J,G,z⟩:=be 1;rw[z] at bo;have F:=hid z;clear al ad b3 b8 L b6 b5 z;gi_wp2;have bh:=zbk M;obtain⟨ba,c1,c2,a0⟩:=yap (bh _ _ _ _ bo);obtain⟨c6, -⟩:=zgs (bh _ _ _ _ cj);obtain⟨c7, -⟩:=zgs (bh _ _ _ _ ck);refine⟨by simp,.inl ⟨_,_,rfl,run_takeDeferred M,?_⟩⟩;exact⟨ze #[zh #[St (X 1),St (y 1),St (Z 1),z7 K J G],zg zt,zj zm 0],by simp[results,Tryz.f16,go_sem,ba,c1,c2,a0,c6,c7],by rw[F.out],zby c4.1 (by have:=c4.2;omega) M⟩
end
section
open Go.RowKit Go.Shelf Lib Str Limb
theorem mb_0:St (numS 0)=z8 ⟨#[48]⟩:=by rw[zie]
theorem mb_1:St (numS 1)=z8 ⟨#[49]⟩:=by rw[zfc]
theorem mb_2:St (numS 2)=z8 ⟨#[50]⟩:=by rw[show numS 2=[50] by decide+kernel]
theorem mb_3:St (numS 3)=z8 ⟨#[51]⟩:=by rw[show numS 3=[51] by decide+kernel]
theorem mb_4:St (numS 4)=z8 ⟨#[52]⟩:=by rw[show numS 4=[52] by decide+kernel]
theorem ydp (a b:Rat) (x y:ByteArray) (j:St (numS a)=z8 x) (hy:St (numS b)=z8 y) (ha:sz a 9) (w:zA) (hw:Hw w):
 zC zF 14 #[z8 x,z8 y] w λe w'=>∃p n c,e=zo (z7 p n c)/\zB w.heap.size w w'/\SolV (zc1 a b) (z7 p n c) w':=by
 rw[<-j,<-hy];refine(yh9 a b ha w (hid hw)).mono ?_;rintro e w' ⟨d,c,f,rfl,g,h,i⟩;exact⟨d,6,c,rfl,h,d,c,f,rfl,g,i⟩
theorem sz_k {k:Rat} (h:(decide (k.num.natAbs<10^10)&&decide (k.den<10^10))=zt):sz3 k k k 10:=by
 rw[Bool.and_eq_true,decide_eq_true_eq,decide_eq_true_eq] at h;exact⟨h,h,h⟩
theorem RowMk.kept {p:Option Addr} {l:List Pq} {b c:zA} (h:RowMk p l b) (a:CellsKept b c) (m:b.heap.size<=c.heap.size):RowMk p l c:=λn q j=>by
 obtain⟨d,o,r,s,t,e,f,g,i,k⟩:=h n q j;exact⟨d,o,r,s,t,e,a.cell f,a.cell g,a.cell i,k.kept a m⟩
def CorV (l:List Pq) (v:Value) (W:zA):Prop:=∃lp lc,v=z7 lp l.length lc/\RowMk lp l W
def ca2:List Pq:=[⟨0,0,0⟩,⟨0,0,2⟩,⟨0,2,0⟩,⟨0,2,2⟩,⟨2,0,0⟩,⟨2,0,2⟩,⟨2,2,0⟩,⟨2,2,2⟩]
def cc4:List Pq:=[⟨2,2,2⟩,⟨2,2,4⟩,⟨2,4,2⟩,⟨2,4,4⟩,⟨4,2,2⟩,⟨4,2,4⟩,⟨4,4,2⟩,⟨4,4,4⟩]
theorem yjd:za4 (zc1 0 2) (tr3 (zc1 0 2))=ca2:=by
 have e:(za4 (zc1 0 2) (tr3 (zc1 0 2))).map (λp=>(p.x,p.y,p.z))=ca2.map (λp=>(p.x,p.y,p.z)):=by decide+kernel
 exact(List.map_inj_right (f:=λp:Pq=>(p.x,p.y,p.z)) λp q h=>by cases p;cases q;simpa using h).1 e
theorem yje:za4 (zc1 2 4) (tr3 (zc1 2 4))=cc4:=by
 have e:(za4 (zc1 2 4) (tr3 (zc1 2 4))).map (λp=>(p.x,p.y,p.z))=cc4.map (λp=>(p.x,p.y,p.z)):=by decide+kernel
 exact(List.map_inj_right (f:=λp:Pq=>(p.x,p.y,p.z)) λp q h=>by cases p;cases q;simpa using h).1 e
def sepK (k:Nat):Bool:=allK (λs=>decide (s<=0)) (λi=>(gH (zc1 0 2) k).s (getP ca2 i)) ca2.length&&allK (λs=>decide (0<=s)) (λi=>(gH (zc1 0 2) k).s (getP cc4 i)) cc4.length
theorem yll:sepK 0=zu:=by decide+kernel
theorem ylm:sepK 1=zt:=by decide+kernel
def szL (l:List Pq):Bool:=l.all λp=>decide (p.x.num.natAbs<10^10)&&decide (p.x.den<10^10)&&decide (p.y.num.natAbs<10^10)&&decide (p.y.den<10^10)&&decide (p.z.num.natAbs<10^10)&&decide (p.z.den<10^10)
theorem yia {l:List Pq} (h:szL l=zt) {q:Pq} (g:q∈l):sz3 q.x q.y q.z 10:=by
 have:=List.all_eq_true.1 h q g;simp only[Bool.and_eq_true,decide_eq_true_eq] at this;obtain⟨⟨⟨⟨⟨a,b⟩,c⟩,d⟩,e⟩,f⟩:=this;exact⟨⟨a,b⟩,⟨c,d⟩,e,f⟩
theorem yln:szL ca2=zt:=by decide+kernel
theorem ylo:szL cc4=zt:=by decide+kernel
theorem z0:sz3 0 0 0 10:=sz_k (by decide+kernel)
theorem z1:sz3 1 1 1 10:=sz_k (by decide+kernel)
theorem z2:sz3 2 2 2 10:=sz_k (by decide+kernel)
theorem z3:sz3 3 3 3 10:=sz_k (by decide+kernel)
theorem z4:sz3 4 4 4 10:=sz_k (by decide+kernel)
theorem lt_k {a b:Rat} (h:decide (a<b)=zt):ltP ⟨a,a,a⟩ ⟨b,b,b⟩:=⟨of_decide_eq_true h,of_decide_eq_true h,of_decide_eq_true h⟩
theorem yjq (k c:Nat) (s:c=65\/c=66) (f:Int->Bool) (q:∀(a:Int) (b:zA),zC zF c #[zj zm a] b λe w'=>e=zo (.bool (f a))/\zB b.heap.size b w')
 (p:Option Addr) (D:Nat->Value) (a:List Hq) (g:SolG a) (w:zA) (hw:Hw w) (z:SolW p a D w) (l:List Pq) (x:l.length<=4000) (u:szL l=zt) (h j:Option Addr) (n md d:Nat) (e:D k=z7 j md d) (y:RowMk h l w):
 qJ 64 #[.agg #[St (numS (gH a k).a),St (numS (gH a k).b),St (numS (gH a k).c),z7 j md d],z7 h l.length n,.func (.func c) #[] #[]] w (ze #[.bool (allK f (λi=>(gH a k).s (getP l i)) l.length),zj zm 0]):=by
 refine yjb h n l x _ _ _ j md d _ c s f w (hid λi o m b F G H B C E A c1 c2 r v=>?_) (hid q) (hid y);have t:getP l i=o:=by unfold getP;rw[m];rfl
 rw[t,<-e];exact zzo p a g D w hw z o (yia u (List.mem_of_getElem? m)) k b r _ _ _ v
theorem yl0 (p t:Option Addr) (cap x:Nat) (D F:Nat->Value) (w:zA) (hw:Hw w) (d:SolW p (zc1 0 2) D w) (S:SolW t (zc1 2 4) F w):
 qJ 16 #[z7 p 6 cap,z7 t 6 x] w (ze #[.agg #[St (numS 1),St (numS 0),St (numS 0),D 1],.bool zt,zj zm 0]):=by
 have A:SolG (zc1 0 2):=zf8 z0 z2;have O:SolG (zc1 2 4):=zf8 z2 z4;have B:∀b,∃m T f,D b=z7 m T f:=λb=>(d.sd b).any;refine zvr p t 6 6 cap x (λb=>numS (gH (zc1 0 2) b).a) (λb=>numS (gH (zc1 0 2) b).b) (λb=>numS (gH (zc1 0 2) b).c) D B (λK J c=>CorV ca2 K c/\CorV cc4 J c) w
  (hid λc a=>?_) (hid λK J c U i G d=>?_)
  (hid λL b2 M N=>yks 2 (by omega) L b2 M N p cap 6 (by omega) (by omega) _ _ _ D B _ λc i=>⟨i.2,d.row.keep (zac i.1)⟩)
  (hid λl Q c q s H o I r a i=>?_)
 ·refine(ye2 p t cap x (zc1 0 2) (zc1 2 4) A O (zft (lt_k (by decide+kernel))) (zft (lt_k (by decide+kernel))) D F c (hw.below a) (d.below a) (S.below a)).mono ?_
  rintro X Y ⟨q,H,o,s,I,r,rfl,P,⟨V,m,f,_,_,g,_,j,_⟩,W,u,n,_,_,h,_,k,_⟩;rw[yjd] at g j;rw[yje] at h k;exact⟨q,H,o,s,I,r,rfl,P,⟨m,f,g,j⟩,u,n,h,k⟩
 ·obtain⟨⟨m,f,g,j⟩,u,n,h,k⟩:=i
  exact⟨⟨m,f,g,j.kept G d⟩,u,n,h,k.kept G d⟩
 ·obtain⟨⟨m,f,g,j⟩,u,n,h,k⟩:=i
  cases g;cases h;obtain⟨E,C,y,z⟩:=B l;rw[z];have R:sepK l=decide (l=1):=by
   match l,Q with
   |0,_=>exact yll
   |1,_=>exact ylm
  rw[<-R];exact zuc q s ca2.length cc4.length o r _ _ _ E C y _ _ c
   (hid λv e=>yjq l 65 (.inl rfl) _ ygj p D (zc1 0 2) A v (hw.below (a.trans (e.mono a.size))) (d.below (a.trans (e.mono a.size))) ca2 (by show 8<=4000;omega) yln q E o C y z (j.below e))
   (hid λv e=>yjq l 66 (.inr rfl) _ ygk p D (zc1 0 2) A v (hw.below (a.trans (e.mono a.size))) (d.below (a.trans (e.mono a.size))) cc4 (by show 8<=4000;omega) ylo s E r C y z (k.below e))
theorem ygl (w:zA) (hw:Hw w)
 (z:∀(a:zA) (p q:Option Addr) (n c m k:Nat),qL w a->SolV (zc1 0 2) (z7 p n c) a->SolV (zc1 1 3) (z7 q m k) a->zC zF 15 #[z7 p n c,z7 q m k] a λe w'=>∃p n c,e=zo (ze #[z7 p n c,zj zm 0])/\zB a.heap.size a w'/\SdL (z7 p n c) (rs 1) w'):
 qJ 5 #[] w (.bool zt):=by
 have s:∀{x:List Hq} (h:Value) (a o:zA),SolV x h a->qL a o->SolV x h o:=λh a o l g=>l.below g;refine ydn (SolV (zc1 0 2)) (SolV (zc1 1 3)) (SolV (zc1 2 4)) w (hid s) (hid s) (hid s)
  (hid λa d=>ydp 0 2 _ _ mb_0 mb_2 ⟨by decide+kernel,by decide+kernel⟩ a (hw.below d)) (hid λa d=>ydp 1 3 _ _ mb_1 mb_3 ⟨by decide+kernel,by decide+kernel⟩ a (hw.below d)) (hid λa d=>ydp 2 4 _ _ mb_2 mb_4 ⟨by decide+kernel,by decide+kernel⟩ a (hw.below d))
  (hid λa p q n c m k d ha g=>?_) (hid z) (hid λa p q n c m k d ha g=>?_) (hid λa p q n c m k d ha g=>?_)
  (hid λa d=>?_) (hid λa d=>?_) (hid λa y h d b f=>eq_l y h _ (by rw[yac (by decide)];simp) a b f) (hid λa y h d b f=>?_)
 ·obtain⟨p,c,i,e, -,b⟩:=ha;cases e
  obtain⟨q,k,j,e, -,f⟩:=g;cases e;exact ydm z0 z2 z1 z3 (lt_k (by decide+kernel)) (lt_k (by decide+kernel)) p q c k i j a (hw.below d) b f zt ⟨λ_=>⟨by decide+kernel,by decide+kernel,by decide+kernel⟩,λ_=>rfl⟩
 ·obtain⟨p,c,i,e, -,b⟩:=ha;cases e
  obtain⟨q,k,j,e, -,f⟩:=g;cases e;exact zxq z0 z2 z2 z4 (lt_k (by decide+kernel)) (lt_k (by decide+kernel)) p q c k i j a (hw.below d) b f zu zt ⟨λl=>(by cases l),λl=>absurd l.1 (by decide+kernel)⟩ ⟨λ_=>⟨by decide+kernel,by decide+kernel,by decide+kernel⟩,λ_=>rfl⟩
 ·obtain⟨p,c,i,e, -,b⟩:=ha;cases e
  obtain⟨q,k,j,e, -,f⟩:=g;cases e;obtain⟨G,D,C,t⟩:=(b.sd 1).any;refine zzM (yl0 p q c k i j a (hw.below d) b f) λw' g=>?_;have u:=(b.sd 1).below g;rw[t] at u;refine⟨G,D,C,?_,g,u⟩;rw[t,mb_1,mb_0]
 ·rw[<-mb_1]
  exact(zh3 1 a).mono λe w' ⟨h,b,f,r,_⟩=>⟨h,b,f,r⟩
 ·rw[<-mb_2]
  exact(zh3 2 a).mono λe w' ⟨h,b,f,r,_⟩=>⟨h,b,f,r⟩
 ·obtain⟨p,n,c,rfl⟩:=b.any
  obtain⟨F,E,B,rfl⟩:=f.any;exact zx9 [49] [48] [48] p F n E c B a (hid λA v=>yh4 _ _ _ (by rw[yac (by decide)];simp) A (b.below v) (f.below v))
def fcF (i:Nat):List Nat:=([[],[4,6,7,5],[],[2,3,7,6],[],[1,5,7,3],[0,1,3,2],[],[0,4,5,1],[],[0,2,6,4],[]]:List (List Nat))[i]?.getD []
theorem yl1:∀i,i<12->zqh cbS cbL i=fcF i:=by decide+kernel
def tcF (i:Nat):Rat:=([0,0,4,4,8,8,12,10,10,8,8,6,6]:List Rat)[i]?.getD 0
theorem ykt:∀i,i<12->tcF (i+1)=totT cbL (triQ (fcF i)) (tcF i) (triQ (fcF i)).length:=by decide+kernel
def szB (q:Rat):Bool:=decide (q.num.natAbs<10^60)&&decide (q.den<10^60)
theorem ydq {q:Rat} (h:szB q=zt):sz q 60:=by
 unfold szB at h;rw[Bool.and_eq_true,decide_eq_true_eq,decide_eq_true_eq] at h;exact h
theorem yl2:((List.range 12).all λi=>(List.range (triQ (fcF i)).length).all λk=>(List.range 4).all λj=>szB (totJ (getP cbL ((triQ (fcF i))[k]?.getD (0,0,0)).1) (getP cbL ((triQ (fcF i))[k]?.getD (0,0,0)).2.1) (getP cbL ((triQ (fcF i))[k]?.getD (0,0,0)).2.2) (totT cbL (triQ (fcF i)) (tcF i) k) j))=zt:=by decide+kernel
theorem yl3:∀i,i<12->(fcF i).length<=4000/\∀x∈fcF i,x<cbL.length:=by decide+kernel
theorem ylp:tcF 12*(1/6)=1:=by decide+kernel
theorem yku:(szB (tcF 12)&&szB (tcF 12*(1/6)))=zt:=by decide+kernel
theorem ylq:szL cbL=zt:=by decide+kernel
theorem RowOn.congr {p:Option Addr} {n:Nat} {f g:Nat->List Nat} {a:zA} (h:RowOn p n f a) (e:∀k,k<n->f k=g k):RowOn p n g a:=λk b=>by
 obtain⟨c,l,m,d,i,j⟩:=h k b;exact⟨c,l,m,d,i,by rw[<-e k b];exact j⟩
theorem cb_g:SolG cbS:=zp2 z0 z2 z1 z3
theorem cb_e:empQ cbS (za4 cbS (tr3 cbS))=zu:=zpd ⟨by decide+kernel,by decide+kernel,by decide+kernel⟩
theorem ykv (p:Option Addr) (cap:Nat) (D:Nat->Value) (w:zA) (hw:Hw w) (o:SolW p cbS D w) (t:12<=cap):
 zC zF 56 #[z7 p 12 cap] w λe w'=>∃b f d j,e=zo (ze #[z7 b cbL.length f,z7 d 12 j,zj zm 0])/\zB w.heap.size w w'/\RowMk b cbL w'/\RowOn d 12 fcF w':=by
 refine(ygf p 12 cap (λm a=>∃b f,m=z7 b cbL.length f/\RowMk b cbL a) (λm a=>∃d j,m=z7 d 12 j/\RowOn d 12 fcF a) (λm a x ⟨l,h,e,r⟩ c=>⟨l,h,e,r.below c⟩) w (hid λa g=>?_) (hid λa g=>?_)).mono ?_
 ·refine(ylk p cap cbS cb_g D a (hw.below g) (o.below g) t cb_e).mono ?_
  rintro e w' ⟨v,rfl,c,n⟩;rw[yeq] at n;exact⟨_,_,_,rfl,c,_,_,rfl,n.congr yl1⟩
 ·refine(zmk p cap cbS cb_g D a (hw.below g) (o.below g) cb_e).mono ?_
  rintro e w' ⟨b,u,f,rfl,c,y,l,h,_,_,i,_,k,_⟩;rw[yeq] at i k;exact⟨b,u,f,rfl,c,l,h,i,k⟩
 ·rintro e w' ⟨l,A,h,C,B,z,rfl,c,⟨b,f,i,k⟩,d,j,q,s⟩
  cases i;cases q;exact⟨_,_,_,_,rfl,c,k,s⟩
theorem yjf (p:Option Addr) (cap:Nat) (D:Nat->Value) (w:zA) (hw:Hw w) (i:SolW p cbS D w) (g:12<=cap):
 zC zF 33 #[z7 p 12 cap] w λe w'=>∃q k c,e=zo (ze #[z7 q k c,zj zm 0])/\zB w.heap.size w w'/\SdL (z7 q k c) (rs 1) w':=by
 have a:=yku;rw[Bool.and_eq_true] at a;have:=yeh p 12 cap cbL (by decide) 12 (by omega) fcF tcF w (hid hw) rfl (hid λm f=>yia ylq (by unfold getP;rw[List.getElem?_eq_getElem f];exact List.getElem_mem f)) (hid yl3) (hid ykt) (hid λj h k m o r d l n=>?_) (hid ⟨ydq a.1,ydq a.2⟩) (hid (ykv p cap D w hw i g))
 ·rw[ylp] at this
  exact this
 ·have b:=List.all_eq_true.1 (List.all_eq_true.1 (List.all_eq_true.1 yl2 j (List.mem_range.2 h)) k (List.mem_range.2 (List.getElem?_eq_some_iff.1 d).1)) l (List.mem_range.2 (by omega))
  rw[d] at b;exact ydq b
theorem yjg (p f:Option Addr) (cap h:Nat) (D k:Nat->Value) (w:zA) (hw:Hw w) (q:SolW p (zc1 0 2) D w) (r:SolW f (zc1 1 3) k w):
 zC zF 15 #[z7 p 6 cap,z7 f 6 h] w λe w'=>∃p n c,e=zo (ze #[z7 p n c,zj zm 0])/\zB w.heap.size w w'/\SdL (z7 p n c) (rs 1) w':=by
 refine zub p f 6 6 cap h (SolV cbS) (λl a=>SdL l (rs 1) a) (λl a t b m=>b.below m) w
  (hid (ztf p f cap h (zc1 0 2) (zc1 1 3) (zf8 z0 z2) (zf8 z1 z3) cb_g (zft (lt_k (by decide+kernel))) (zft (lt_k (by decide+kernel))) D k w hw q r)) (hid λa d s c i j=>?_) (hid λa d s c i j=>?_)
 ·obtain⟨d,c,g,e, -,b⟩:=j
  cases e;have:=yc2 d c cbS cb_g g a (hw.below i) b;rw[cb_e] at this;exact this
 ·obtain⟨d,c,g,e,o,b⟩:=j
  cases e;exact yjf d c g a (hw.below i) b o
theorem ydr (w:zA) (hw:Hw w):qJ 5 #[] w (.bool zt):=by
 refine ygl w hw λh d e n b m c k ha l=>?_;obtain⟨d,b,f,a, -,i⟩:=ha;cases a;obtain⟨e,c,g,a, -,j⟩:=l;cases a;exact yjg d e b c f g h (hw.below k) i j
end
section
open Go.RowKit Go.Shelf Lib Str Limb Geo
attribute [local go_sem] Oper.semAt_some
theorem ygm (n:Nat) (s:300<(zD n).length) (r:(zD n).length<=1000) (w:zA):
 zC zF 50 #[St (zD n)] w λe w'=>e=zo (zj zm 4)/\w'=w:=by
 obtain⟨a,f⟩:=zzX (⟨(zD n++[]).toArray⟩:ByteArray);obtain⟨g,b2, -⟩:=zii (zd7 n) a f;have i:(zD n).length<=1\/∀c:0<a.size,(a[0]'c).toNat≠48:=zjz n [] a f;have m:∀b (c:b<a.size),48<=(a[b]'c).toNat/\(a[b]'c).toNat<=57:=λb c=>⟨(b2 b (by simp at g;omega) c).1,(b2 b (by simp at g;omega) c).2.1⟩;have t:1<=(zD n).length:=by have:=zbn (n:Int);unfold digs at this;simpa using this
 rw[List.append_nil] at f;have o:(zD n).length=a.size:=by rw[g];simp
 show zC _ _ #[z8 ⟨(zD n).toArray⟩] _ _;rw[o] at s r i t;rw[<-f];have k:=hid m;clear g b2 m f o;have d:0<a.size:=by omega
 have y:(0:Int)<a.size:=by omega
 have E:((0:Int)==a.size)=zu:=by rw[beq_eq_false_iff_ne];omega
 have A:(((a[0]'d).toNat:Int)==45)=zu:=by rw[beq_eq_false_iff_ne];have:=(k 0 d).1;omega
 have q:(((a[0]'d).toNat:Int)==48)=zt/\¬(1:Int)<a.size\/(((a[0]'d).toNat:Int)==48)=zu:=by
  by_cases h:(a[0]'d).toNat=48
  ·left
   refine⟨by rw[h];rfl,?_⟩;rcases i with l|l
   ·omega
   ·exact absurd h (l d)
  ·right;rw[beq_eq_false_iff_ne];omega
 have C:zm.wrap ((a.size:Int)-0)=(a.size:Int):=by rw[Int.sub_zero];exact zI _ ⟨by omega,by omega⟩
 have D:zm.wrap (a.size:Int)=(a.size:Int):=zI _ ⟨by omega,by omega⟩;have z:(300:Int)<a.size:=by omega
 clear i;go_enter Tryz.func50,Tryz.ntmps50;rcases q with⟨p,x⟩|p
 ·exfalso;omega
 all_goals (
 go_wp2;go_loop [4] (λj=>∃b:Nat,b<=a.size/\j=zj zm b) (λj=>a.size-(zL j).toNat)
 case atStart=>exact⟨0,Nat.zero_le _,rfl⟩
 case round=>
  obtain⟨b,B,rfl⟩:=hrel;by_cases hlt:b<a.size
  ·obtain⟨c1,c2⟩:=k b hlt
   have u:(48:Int)<=(a[b].toNat:Int):=by omega
   have v:(a[b].toNat:Int)<=57:=by omega
   go_wp2;go_round
   case rel=>exact⟨b+1,by omega,by go_num⟩
   case measure=>simp[zL];omega
  ·go_wp2
   go_ret
   first|exact⟨rfl,rfl⟩|exact rfl|trivial)
theorem ygn (n:Nat) (o:0<n) (t:300<(zD n).length) (r:(zD n).length<=1000) (w:zA):
 zC zF 50 #[St (45::zD n)] w λe w'=>e=zo (zj zm 4)/\w'=w:=by
 have f:=zan n;have g:=zzE o;have h:1<=(zD n).length:=by have:=zbn (n:Int);unfold digs at this;simpa using this
 obtain⟨c,u⟩:=zzX (zD n);rw[<-u] at f t r h g⊢;obtain⟨a,i⟩:=zzX (⟨(45::c).toArray⟩:ByteArray);obtain⟨l,b2⟩:=zds (45::c) a i;have z:a.size=c.length+1:=by rw[l];simp
 have p:0<a.size:=by omega
 have q:1<a.size:=by omega
 have D:(((a[0]'p).toNat:Int)==45)=zt:=by rw[b2 0 (by simp) p];rfl
 have s:∀b (d:b<a.size),1<=b->48<=(a[b]'d).toNat/\(a[b]'d).toNat<=57:=λb d x=>by
  obtain⟨k,rfl⟩:∃k,b=k+1:=⟨b-1,by omega⟩;rw[b2 (k+1) (by simp;omega) d];exact f _ (by simp)
 have E:(((a[1]'q).toNat:Int)==48)=zu:=by
  rw[beq_eq_false_iff_ne,b2 1 (by simp;omega) q]
  cases c with
  |nil=>simp at h
  |cons m A=>have:=g m A rfl;show((m.toNat:Int))≠48;omega
 show zC _ _ #[z8 ⟨(45::c).toArray⟩] _ _;rw[<-i];have v:=hid s;have I:zm.wrap ((a.size:Int)-1)=(a.size:Int)-1:=zI _ ⟨by omega,by omega⟩;have G:(300:Int)<(a.size:Int)-1:=by omega
 have F:(0:Int)<a.size:=by omega
 have J:((1:Int)==a.size)=zu:=by rw[beq_eq_false_iff_ne];omega
 have H:a.size<=1001:=by omega
 clear s l b2 i f g u h t r o z;go_enter Tryz.func50,Tryz.ntmps50;go_wp2;go_loop [4] (λj=>∃b:Nat,1<=b/\b<=a.size/\j=zj zm b) (λj=>a.size-(zL j).toNat)
 case atStart=>exact⟨1,Nat.le_refl _,by omega,rfl⟩
 case round=>
  obtain⟨b,y,x,rfl⟩:=hrel;by_cases hlt:b<a.size
  ·obtain⟨c1,c2⟩:=v b hlt y
   have B:(48:Int)<=(a[b].toNat:Int):=by omega
   have C:(a[b].toNat:Int)<=57:=by omega
   go_wp2;go_round
   case rel=>exact⟨b+1,by omega,by omega,by go_num⟩
   case measure=>simp[zL];omega
  ·go_wp2
   go_ret
   first|exact⟨rfl,rfl⟩|exact rfl|trivial
theorem yek (z:Int) (b:300<digs z) (a:digs z<=1000) (w:zA):
 zC zF 50 #[St (zE z)] w λe w'=>e=zo (zj zm 4)/\w'=w:=by
 rcases zbg z with⟨c,e⟩|⟨c,e⟩<;>rw[e]
 ·exact ygm _ b a w
 ·exact ygn _ (by omega) b a w
theorem yds (m:Bool) (j:Value) (n:Nat) (w:zA) (c:Sl w j ((zaa B6 n).map I)) (i:(zaa B6 n).length<=200) (h:300<digs (sgn m n)) (e:digs (sgn m n)<=1000):
 qJ 48 #[.agg #[.bool m,j]] w (ze #[z8 ⟨#[]⟩,zj zm 4]):=by
 obtain⟨u,s,rfl, -⟩:=id c;simp only[List.length_map] at*
 obtain⟨d,a⟩:=zzX (w.alloc (.cells #[.bool m,z7 u (zaa B6 n).length s] 76));have b:qL w d:=by rw[a];exact(Below.refl _ w).alloc (Nat.le_refl _) _
 have hw:=zt0 m _ n d (c.below b) i;have g:=λr=>yek (sgn m n) h e r;generalize (zaa B6 n).length=x at*
 generalize zE (sgn m n)=y at*
 have p:=hid hw;have o:=hid g;have k:=hid b;have q:=hid a;clear hw g b a c h e i;go_enter Tryz.func48,Tryz.ntmps48;go_wp21;rw[<-q.out];refine zzM p.out λv f=>?_;have l:=qT k f;clear f;go_wp21;refine zzM (o v) λz t=>?_;subst t;go_wp21;go_ret2;exact⟨rfl,l.out⟩
theorem zxr (x y:Int) (h:17<(zE x).length\/17<(zE y).length) (m:digs x<=300) (hy:digs y<=300) (F:300<digs (x*y)) (w:zA):
 qJ 27 #[St (zE x),St (zE y)] w (ze #[z8 ⟨#[]⟩,zj zm 4]):=by
 have c1:=λa=>zj7 x y m hy a;have c2:=λa=>ztj x y h (zO (za7 x) (by omega)) (zO (za7 y) (by omega)) a;have t:=λa=>znu x a (by omega);have u:=λa=>znu y a (by omega);have P:=zve x 50 (by omega) m;have Q:=zve y 50 (by omega) hy;have n:=λr s a e p=>z5f (decide (x<0)) (decide (y<0)) r s x.natAbs y.natAbs a e p (by omega) (by omega);rw[zcs,zcs] at n;have G:digs (x*y)<=600:=by
  have e:x.natAbs<10^300:=(za3 x 300 (by omega)).1 m;have p:y.natAbs<10^300:=(za3 y 300 (by omega)).1 hy;exact zO (z1j (i:=300) (j:=300) (by omega) e p) (by omega)
 have v:=λb f c (d:sgn b c=x*y) a e=>yds b f c a e (by
  have:=zve (x*y) 100 (by omega) G;rw[<-d,zge] at this;omega) (by rw[d];exact F) (by rw[d];omega)
 have H:=hid c1;have J:=hid c2;have K:=hid t;have L:=hid u;have M:=hid n;have N:=hid (show ∀b f c,sgn b c=x*y->∀a:zA,Sl a f ((zaa B6 c).map I)->qJ 48 #[.agg #[.bool b,f]] a (ze #[z8 ⟨#[]⟩,zj zm 4]) from λb f c d a e=>v b f c d a e);clear c1 c2 t u n v m hy F G h P Q;generalize zE x=a3 at*
 generalize zE y=f at*
 generalize decide (x<0)=a1 at*
 generalize decide (y<0)=a2 at*
 go_enter Tryz.func27,Tryz.ntmps27;go_wp21;refine zzM (H w) λU R=>?_;subst R;go_wp21;refine(J U).mono ?_;rintro o V ⟨⟨Z,a0,rfl⟩,S⟩;subst S;go_wp21;refine(K V).mono ?_;rintro o W ⟨r,rfl,C,z⟩;have l:=hid (⟨C,z⟩:_/\_);clear C z;go_wp21;refine(L W).mono ?_;rintro o X ⟨s,rfl,D,q⟩;have g:=hid (⟨l.1.below q,D,l.2.trans (q.mono l.2.size)⟩:_/\_/\_);clear D q l;go_wp21;refine(M r s X g.1 g.2.1).mono ?_;rintro o Y ⟨b,T,c,rfl,d,E,A⟩;have k:=hid (⟨d,E,g.2.2.trans (A.mono g.2.2.size)⟩:_/\_/\_);clear d E A g;go_wp21;refine zzM (N b T c k.1 Y k.2.1) λa4 B=>?_;have O:=hid (k.2.2.trans (B.mono k.2.2.size));clear B k;go_wp21;go_ret2;exact⟨rfl,O.out⟩
theorem ygo (a b c d:Int) (ha:digs a<=300) (n:digs b<=300) (r:digs c<=300) (s:digs d<=300) (h:300<digs (a*b)\/300<digs (c*d)) (w:zA) (hw:Wd w):
 zC zF 12 #[St (zE a),St (zE b),St (zE c),St (zE d)] w λe w'=>∃u v:ByteArray,e=zo (ze #[z8 u,z8 v,zj zm 4])/\zB w.heap.size w w':=by
 have o:∀{f g:Int},300<digs (f*g)->17<(zE f).length\/17<(zE g).length:=λ{f g} h=>by
  by_cases h1:17<(zE f).length
  ·exact .inl h1
  ·by_cases l:17<(zE g).length
   ·exact .inr l
   ·exfalso
    have I:=zbr f;have J:=zbr g;have B:f.natAbs<10^17:=(za3 f 17 (by omega)).1 (by omega);have C:g.natAbs<10^17:=(za3 g 17 (by omega)).1 (by omega);have:=z1j (i:=17) (j:=17) (by omega) B C;omega
 have A:=hid hw;clear hw;by_cases h1:300<digs (a*b)
 ·have p:=hid λk=>zxr a b (o h1) ha n h1 k
  clear ha n r s h h1 o;generalize zE a=E at*
  generalize zE b=F at*
  generalize zE c=G at*
  generalize zE d=H at*
  go_enter Tryz.func12,Tryz.ntmps12;go_wp21;refine zzM (p w) λx m=>?_;have q:=hid m;clear m;go_wp21;go_ret3;exact⟨_,_,rfl,q.out⟩
 ·have l:300<digs (c*d):=by rcases h with h|h;exact(h1 h).elim;exact h
  have p:=hid λk D=>z26 a b ha n (by omega) k D;have y:=hid λk=>zxr c d (o l) r s l k;clear ha n r s h h1 l o;generalize zE (a*b)=K at*
  generalize zE a=E at*
  generalize zE b=F at*
  generalize zE c=G at*
  generalize zE d=H at*
  go_enter Tryz.func12,Tryz.ntmps12;go_wp21;refine zzM (p w A.out) λx m=>?_;have q:=hid m;clear m;go_wp21;refine zzM (y x) λL t=>?_;have z:=qT q t;clear t;go_wp21;go_ret3;exact⟨_,_,rfl,z.out⟩
theorem zzi (p q:Rat) (b:okN p) (c:okN q) (U:digs (p.num*q.den)<=300) (V:digs (q.num*p.den)<=300) (x:¬(zm0 p/\zm0 q)) (w:zA) (hw:Wd w):
 qJ 4 #[St (numS p),St (numS q)] w (ze #[zj zm (cmpR p q),zj zm 0]):=by
 rw[<-zim];have j:=λa f=>zrs p q b c a f;have c1:=λa=>z0y p b a;have c2:=λa=>z0y q c a;have k:=λa=>zre p b a;have l:=λa=>zre q c a;have e:∀g:Nat,digs (g:Int)=(zD g).length:=λg=>by unfold digs;rw[Int.natAbs_natCast]
 have d:=λa f=>zct p.num (q.den:Int) q.num (p.den:Int) b.1 (by rw[e];exact c.2) c.1 (by rw[e];exact b.2) (by omega) (by omega) a f;have m:=λa=>z5h (p.num*q.den) (q.num*p.den) (by omega) (by omega) a;rw[Str.zad,Str.zad] at d;have N:(decide (zm0 p)=zu)\/(decide (zm0 p)=zt/\decide (zm0 q)=zu):=by
  by_cases h1:zm0 p
  ·right;exact⟨decide_eq_true h1,decide_eq_false (λM=>x ⟨h1,M⟩)⟩
  ·left;exact decide_eq_false h1
 have y:=hid j;have z:=hid c1;have A:=hid c2;have B:=hid k;have C:=hid l;have D:=hid d;have E:=hid m;have i:=hid hw;clear j c1 c2 k l d m hw b c e U V x;generalize cmpZ (p.num*q.den) (q.num*p.den)=a3 at*
 generalize zE (p.num*q.den)=Z at*
 generalize zE (q.num*p.den)=a0 at*
 generalize numS p=a4 at*
 generalize numS q=a5 at*
 generalize zE p.num=a1 at*
 generalize zE q.num=a2 at*
 generalize zD p.den=X at*
 generalize zD q.den=Y at*
 generalize decide (zm0 p)=W at*
 generalize decide (zm0 q)=b2 at*
 go_enter Tryz.func4,Tryz.ntmps4;go_wp21;refine zzM (y w i.out) λO n=>?_;have F:=hid n;clear n;go_wp21;refine(z O).mono ?_;rintro L P ⟨⟨a7,a8,rfl⟩,o⟩;have G:=qT F o;clear o;go_wp21;refine(A P).mono ?_;rintro L Q ⟨⟨a9,aa,rfl⟩,r⟩;have H:=qT G r;clear r;rcases N with rfl|⟨rfl,rfl⟩<;>(
  go_wp21;refine zzM (B Q) λR s=>?_;have I:=qT H s;clear s;go_wp21;refine zzM (C R) λS t=>?_;have h:=qT I t;clear t;go_wp21;refine zzM (D S (i.below h.out)) λT u=>?_;have J:=qT h u;clear u;go_wp21;refine zzM (E T) λa6 v=>?_;have K:=qT J v;clear v;go_wp21;go_ret2;exact⟨rfl,K.out⟩)
theorem zzk (p q:Rat) (b:okN p) (c:okN q) (x:300<digs (p.num*q.den)\/300<digs (q.num*p.den)) (v:¬(zm0 p/\zm0 q)) (w:zA) (hw:Wd w):
 qJ 4 #[St (numS p),St (numS q)] w (ze #[zj zm 0,zj zm 4]):=by
 have j:=λa f=>zrs p q b c a f;have c1:=λa=>z0y p b a;have c2:=λa=>z0y q c a;have k:=λa=>zre p b a;have l:=λa=>zre q c a;have e:∀g:Nat,digs (g:Int)=(zD g).length:=λg=>by unfold digs;rw[Int.natAbs_natCast]
 have d:=λa f=>ygo p.num (q.den:Int) q.num (p.den:Int) b.1 (by rw[e];exact c.2) c.1 (by rw[e];exact b.2) x a f;rw[Str.zad,Str.zad] at d;have K:(decide (zm0 p)=zu)\/(decide (zm0 p)=zt/\decide (zm0 q)=zu):=by
  by_cases h1:zm0 p
  ·right;exact⟨decide_eq_true h1,decide_eq_false (λJ=>v ⟨h1,J⟩)⟩
  ·left;exact decide_eq_false h1
 have y:=hid j;have z:=hid c1;have A:=hid c2;have B:=hid k;have C:=hid l;have D:=hid d;have i:=hid hw;clear j c1 c2 k l d hw b c e x v;generalize numS p=V at*
 generalize numS q=W at*
 generalize zE p.num=T at*
 generalize zE q.num=U at*
 generalize zD p.den=R at*
 generalize zD q.den=S at*
 generalize decide (zm0 p)=Q at*
 generalize decide (zm0 q)=b2 at*
 go_enter Tryz.func4,Tryz.ntmps4;go_wp21;refine zzM (y w i.out) λL n=>?_;have E:=hid n;clear n;go_wp21;refine(z L).mono ?_;rintro m M ⟨⟨a0,a1,rfl⟩,o⟩;have F:=qT E o;clear o;go_wp21;refine(A M).mono ?_;rintro m N ⟨⟨a2,a3,rfl⟩,r⟩;have G:=qT F r;clear r;rcases K with rfl|⟨rfl,rfl⟩<;>(
  go_wp21;refine zzM (B N) λO s=>?_;have H:=qT G s;clear s;go_wp21;refine zzM (C O) λP t=>?_;have h:=qT H t;clear t;go_wp21;refine(D P (i.below h.out)).mono ?_;rintro m Z ⟨X,Y,rfl,u⟩;have I:=qT h u;clear u;go_wp21;go_ret2;exact⟨rfl,I.out⟩)
theorem ydt (p q:Rat) (c:okN p) (d:okN q) (w:zA) (hw:Wd w):
 zC zF 4 #[St (numS p),St (numS q)] w λe w'=>∃r,(r=0\/r=4)/\e=zo (ze #[zj zm (if r=0 then cmpR p q else 0),zj zm r])/\zB w.heap.size w w':=by
 by_cases h:zm0 p/\zm0 q
 ·exact(z4q p q c d h.1 h.2 w hw).mono λe w' ⟨a,b⟩=>⟨0,.inl rfl,a,b⟩
 ·by_cases hx:300<digs (p.num*q.den)\/300<digs (q.num*p.den)
  ·exact(zzk p q c d hx h w hw).mono λe w' ⟨a,b⟩=>⟨4,.inr rfl,a,b⟩
  ·exact(zzi p q c d (by omega) (by omega) h w hw).mono λe w' ⟨a,b⟩=>⟨0,.inl rfl,a,b⟩
theorem ygp (a b:List UInt8) (ha:a.length<=9223372036854775807) (l:b.length<=9223372036854775807) (w:zA) (hw:Wd w):
 zC zF 9 #[St a,St b] w λe w'=>∃r:Int,e=zo (zj zm r)/\(r=0↔(∃q,a=numS q/\okQ q)/\∃q,b=numS q/\okQ q)/\zB w.heap.size w w':=by
 have h:=hid (zly a ha w hw);have i:=hid λt u=>zly b l t u;have p:=hid hw;clear ha l hw;go_enter Tryz.func9,Tryz.ntmps9;go_wp21;refine h.mono ?_;rintro e x ⟨f,rfl,j,m⟩;have d:=hid (⟨j,m⟩:_/\_);clear j m h;cases hz:(f==0)
 ·have o:f≠0:=by simpa using hz
  have s:=hid o;clear o;go_wp21;go_ret;exact⟨f,rfl,⟨λc=>(s c).elim,λc=>d.1.2 c.1⟩,d.2⟩
 ·obtain rfl:f=0:=by simpa using hz
  clear hz;go_wp21;refine(i x (p.below d.2)).mono ?_;rintro e y ⟨v,rfl,k,n⟩;have g:=hid (⟨k,d.2.trans (n.mono d.2.size)⟩:_/\_);clear k n i;go_wp21;go_ret;exact⟨v,rfl,⟨λc=>⟨d.1.1 trivial,g.1.1 c⟩,λc=>g.1.2 c.2⟩,g.2⟩
theorem ydu (a b:List UInt8) (r:Int) (_:r≠0) (w:zA) (C:Hid (zC zF 9 #[St a,St b] w λe w'=>∃r:Int,e=zo (zj zm r)/\r≠0/\zB w.heap.size w w')):
 zC zF 4 #[St a,St b] w λe w'=>∃r:Int,e=zo (ze #[zj zm 0,zj zm r])/\r≠0/\zB w.heap.size w w':=by
 go_enter Tryz.func4,Tryz.ntmps4;go_wp21;refine C.mono ?_;rintro e j ⟨g,rfl,d,f⟩;have i:(g==0)=zu:=by simpa using d
 have c:=hid (⟨d,f⟩:_/\_);clear f C;go_wp21;go_ret2;exact⟨g,rfl,c.1,c.2⟩
theorem zn5 (a b:List UInt8) (ha:a.length<=9223372036854775807) (c:b.length<=9223372036854775807) (w:zA) (hw:Wd w):
 zC zF 4 #[St a,St b] w λe w'=>∃m r:Int,e=zo (ze #[zj zm m,zj zm r])/\zB w.heap.size w w'/\(r=0->∃p q,a=numS p/\b=numS q/\m=cmpR p q)/\(a.length<=20->b.length<=20->(∃p,a=numS p)->(∃q,b=numS q)->r=0):=by
 have l:∀{q:Rat},(numS q).length<=20->okQ q:=λd=>zoo (show 0<20 by omega) (by omega) (z31 (by omega) d);by_cases d:(∃p,a=numS p/\okQ p)/\∃q,b=numS q/\okQ q
 ·obtain⟨⟨p,rfl,g⟩,q,rfl,h⟩:=d
  by_cases hs:(numS p).length<=20/\(numS q).length<=20
  ·refine zzM (z2a p q 20 20 (by omega) (by omega) (by omega) (z31 (by omega) hs.1) (z31 (by omega) hs.2) w hw) λw' c=>?_
   exact⟨_,0,rfl,c,λ_=>⟨p,q,rfl,rfl,rfl⟩,λ_ _ _ _=>rfl⟩
  ·refine(ydt p q g h w hw).mono ?_
   rintro e w' ⟨r, -,rfl,c⟩;exact⟨_,r,rfl,c,λf=>⟨p,q,rfl,rfl,by rw[if_pos f]⟩,λi j=>(hs ⟨i,j⟩).elim⟩
 ·refine(ydu a b 1 (by decide) w (hid ?_)).mono ?_
  ·refine(ygp a b ha c w hw).mono ?_
   rintro e w' ⟨r,rfl,k,c⟩;exact⟨r,rfl,λf=>d (k.1 f),c⟩
  ·rintro e w' ⟨r,rfl,k,c⟩
   refine⟨_,r,rfl,c,λf=>(k f).elim,λi j ⟨p,g⟩ ⟨q,h⟩=>(d ⟨⟨p,g,l (by rw[<-g];exact i)⟩,q,h,l (by rw[<-h];exact j)⟩).elim⟩
end
section
open Go.RowKit Go.Shelf Lib Str Limb Geo
theorem zgg {a b c:Rat} {k m:Nat} (h:sz3 a b c k) (d:k<=m):sz3 a b c m:=⟨h.1.mono d,h.2.1.mono d,h.2.2.mono d⟩
theorem yib (x:Nat->ByteArray) (Y:∀i,((x i).size:Int)<=9223372036854775807) (w:zA) (hw:Hw w):
 qJ 3 #[.agg #[z8 (x 0),z8 (x 1),z8 (x 2),z8 (x 3),z8 (x 4),z8 (x 5),z8 (x 6),z8 (x 7),z8 (x 8),z8 (x 9),z8 (x 10),z8 (x 11)]] w (.bool zt):=by
 obtain⟨c,I⟩:=zzX ( λi=>(x i).toList:Nat->List UInt8);have g:∀i,z8 (x i)=St (c i):=λi=>by rw[I];show _=z8 ⟨(x i).toList.toArray⟩;rw[ByteArray.toList_eq]
 have s:∀i,(c i).length<=9223372036854775807:=λi=>by rw[I];show(x i).toList.length<=_;rw[ByteArray.toList_eq];exact Int.ofNat_le.1 (Y i)
 rw[g 0,g 1,g 2,g 3,g 4,g 5,g 6,g 7,g 8,g 9,g 10,g 11];clear g Y I x;obtain⟨a,y⟩:=ykk c;have v:GoodX c a 3->(sz3 (a 0) (a 2) (a 4) 8/\sz3 (a 1) (a 3) (a 5) 8/\sz3 (a 6) (a 8) (a 10) 8/\sz3 (a 7) (a 9) (a 11) 8)/\ltP ⟨a 0,a 2,a 4⟩ ⟨a 1,a 3,a 5⟩/\ltP ⟨a 6,a 8,a 10⟩ ⟨a 7,a 9,a 11⟩:=λb=>by
  obtain⟨A,C⟩:=b 0 (by omega);obtain⟨a1,D⟩:=b 1 (by omega);obtain⟨B,b2⟩:=b 2 (by omega);exact⟨⟨⟨A.sz.1,a1.sz.1,B.sz.1⟩,⟨A.sz.2,a1.sz.2,B.sz.2⟩,⟨C.sz.1,D.sz.1,b2.sz.1⟩,C.sz.2,D.sz.2,b2.sz.2⟩,⟨A.lt,a1.lt,B.lt⟩,C.lt,D.lt,b2.lt⟩
 refine ydc c (hid s) a (SolV (boxH ⟨a 0,a 2,a 4⟩ ⟨a 1,a 3,a 5⟩)) (SolV (boxH ⟨a 6,a 8,a 10⟩ ⟨a 7,a 9,a 11⟩)) w (hid λu d a2 k e=>k.below e) (hid λu d a2 k e=>k.below e)
  (hid λd f=>ydr d (hw.below f)) (hid λi d f=>?_) (hid λi J W X d f=>?_) (hid λb d f=>?_) (hid λb d f=>?_) (hid λb d Q u f ha e=>?_) (hid λb d Q u f ha e=>?_)
 ·refine(zn5 (c i) (c (i+1)) (s i) (s (i+1)) d (hw.below f).wd).mono ?_
  rintro h V ⟨Z,a0,rfl,e,p, -⟩;refine⟨Z,a0,rfl,e,λk=>?_⟩;obtain⟨j,t,l,m,q⟩:=p k;obtain rfl:=y i j l;obtain rfl:=y (i+1) t m;exact⟨l,m,q⟩
 ·refine(zn5 (c i) (c (J+1)) (s i) (s (J+1)) d (hw.below f).wd).mono ?_
  rintro h V ⟨Z,a0,rfl,e,p,r⟩;obtain rfl:=r (by have:=W.l1;omega) (by have:=X.l2;omega) ⟨_,W.n1⟩ ⟨_,X.n2⟩;obtain⟨j,t,l,m,rfl⟩:=p rfl;obtain rfl:=y i j l;obtain rfl:=y (J+1) t m;exact⟨rfl,e⟩
 ·have E:c 0=numS (a 0):=(b 0 (by omega)).1.n1
  have l:c 1=numS (a 1):=(b 0 (by omega)).1.n2;have m:c 2=numS (a 2):=(b 1 (by omega)).1.n1;have q:c 3=numS (a 3):=(b 1 (by omega)).1.n2;have F:c 4=numS (a 4):=(b 2 (by omega)).1.n1;have G:c 5=numS (a 5):=(b 2 (by omega)).1.n2;rw[E,l,m,q,F,G];refine(zpp ⟨a 0,a 2,a 4⟩ ⟨a 1,a 3,a 5⟩ (zgg (v b).1.1 (by omega)) d (hid (hw.below f))).mono ?_;rintro h V ⟨j,o,n,rfl,H,e,k⟩;exact⟨(j,6,o),rfl,e,j,o,n,rfl,H,k⟩
 ·have E:c 6=numS (a 6):=(b 0 (by omega)).2.n1
  have l:c 7=numS (a 7):=(b 0 (by omega)).2.n2;have m:c 8=numS (a 8):=(b 1 (by omega)).2.n1;have q:c 9=numS (a 9):=(b 1 (by omega)).2.n2;have F:c 10=numS (a 10):=(b 2 (by omega)).2.n1;have G:c 11=numS (a 11):=(b 2 (by omega)).2.n2;rw[E,l,m,q,F,G];refine(zpp ⟨a 6,a 8,a 10⟩ ⟨a 7,a 9,a 11⟩ (zgg (v b).1.2.2.1 (by omega)) d (hid (hw.below f))).mono ?_;rintro h V ⟨j,o,n,rfl,H,e,k⟩;exact⟨(j,6,o),rfl,e,j,o,n,rfl,H,k⟩
 ·obtain⟨R,a4,S⟩:=Q
  obtain⟨T,a5,U⟩:=u;obtain⟨j,o,n,h, -,p⟩:=ha;cases h;obtain⟨t,a3,z,h, -,r⟩:=e;cases h;obtain⟨⟨M,N,O,P⟩,K,L⟩:=v b;exact ydm (zgg M (by omega)) (zgg N (by omega)) (zgg O (by omega)) (zgg P (by omega)) K L R T S U n z d (hw.below f) p r (ovB a 3) (ye3 b)
 ·obtain⟨R,a4,S⟩:=Q
  obtain⟨T,a5,U⟩:=u;obtain⟨j,o,n,h, -,p⟩:=ha;cases h;obtain⟨t,a3,z,h, -,r⟩:=e;cases h;obtain⟨⟨M,N,O,P⟩,K,L⟩:=v b;exact zxq (zgg M (by omega)) (zgg N (by omega)) (zgg O (by omega)) (zgg P (by omega)) K L R T S U n z d (hw.below f) p r (ovB a 3) (toB a 3) (ye3 b) (ykl b)
end
section
open Go.RowKit Go.Shelf Lib Str Limb
open Go.ChangeShapes Go.WideShapes Go.ChangeAt
theorem yjh {W:zA} {r:Reach} {base:Nat} {c:Value} (h:Cell.okWide zF W r base 22 c):∃s,c=z8 s/\(s.size:Int)<=9223372036854775807:=by
 cases c<;>first|exact⟨_,rfl,by simpa [Cell.okWide,Tryz.underlying22,Cell.ok] using h⟩|(simp[Cell.okWide,Tryz.underlying22,Cell.ok] at h)
theorem yji {j:zA} {r:Reach} {k:Nat} {v:Value} (h:Value.okWide zF j r k 27 v):∃x:Nat->ByteArray,(∀i,((x i).size:Int)<=9223372036854775807)/\v=.agg #[z8 (x 0),z8 (x 1),z8 (x 2),z8 (x 3),z8 (x 4),z8 (x 5),z8 (x 6),z8 (x 7),z8 (x 8),z8 (x 9),z8 (x 10),z8 (x 11)]:=by
 simp only[Value.okWide,Tryz.underlying27] at h;obtain⟨d,rfl,n,s,o, -,p⟩:=h;rw[show Tryz.prog.cellsOf 27=12 by kernel_rfl] at n;obtain rfl:s=List.replicate 12 22:=Option.some.inj (o.symm.trans (by kernel_rfl));have l:∀i,i<12->∃a:ByteArray,d[i]? =some (z8 a)/\(a.size:Int)<=9223372036854775807:=λi b=>by
  have c:d[i]? =some d[i]:=Array.getElem?_eq_getElem (by omega);obtain⟨t,g,q⟩:=p i _ c;have:t=22:=by
   rw[List.length_replicate,Nat.mod_eq_of_lt b,List.getElem?_replicate] at g;rw[if_pos b] at g;exact(Option.some.inj g).symm
  subst this;obtain⟨a,f,e⟩:=yjh q;exact⟨a,by rw[c,f],e⟩
 have m:∀i,∃a:ByteArray,(i<12->d[i]? =some (z8 a))/\(a.size:Int)<=9223372036854775807:=λi=>by
  by_cases b:i<12
  ·obtain⟨a,f,e⟩:=l i b;exact⟨a,λ_=>f,e⟩
  ·exact⟨⟨#[]⟩,λh=>(b h).elim,by decide⟩
 obtain⟨x,c⟩:=Classical.axiomOfChoice m;refine⟨x,λi=>(c i).2,?_⟩;congr 1;apply Array.ext_getElem?;intro i;by_cases b:i<12
 ·rw[(c i).1 b]
  match i,b with
  |0,_|1,_|2,_|3,_|4,_|5,_|6,_|7,_|8,_|9,_|10,_|11,_=>rfl
 ·rw[Array.getElem?_eq_none (by omega),Array.getElem?_eq_none (by simp;omega)]
theorem z80 {l:List (String×DataW Unit)} {a:zA} (f:laidMet zF l a) (i:("kingpost/surd.signPlaces",Rows.laid_kingpost_surd_signPlaces)∈l):Spw a:=by
 obtain⟨e,m,c,o,p,h,j,k,b⟩:=Lib.laidMet.reads f i;obtain rfl:e=0:=Option.some.inj (h.symm.trans (by kernel_rfl));obtain rfl:m=275:=Option.some.inj (j.symm.trans (by kernel_rfl));have d:(Rows.laid_kingpost_surd_signPlaces:DataW Unit)=Lib.tabData .i64 [4,16,64]:=by kernel_rfl
 rw[d] at b;have g:=Lib.cells_of_tab (n:=3) Tryz.underlying275 Tryz.underlying3 (by kernel_rfl) (by kernel_rfl) b;obtain rfl:c=spV:=Array.toList_inj.1 (g.trans (by kernel_rfl));exact⟨k⟩
theorem zp4 (os:Os) (H:os.Started) (o:Type) (enc:TypeId×Value->o):
 ReturnsInHanded {} Tryz.checked os 3 .any (λw args=>(Rows.meetBoxesSpec.pre enc zF Tryz.f3 [] false w args/\laidMetH zF Rows.meetBoxesRow.laid w)/\sizedMet enc zF Tryz.f3 (OpenSpec.ofChange Rows.meetBoxesSpec) false w args)
  (Rows.meetBoxesSpec.post enc zF Tryz.f3 false true false false):=by
 refine zf9 (C:=Tryz.checked) (X:=λw _=>laidMetH zF Rows.meetBoxesRow.laid w) (λ_ _ _ v e=>e.of_heap v) zrj H (by kernel_rfl) Tryz.func3
  (ChangeSpec.witness_shaped (enc:=enc) (C:=Tryz.checked) (os:=os) (X:=λw _=>laidMetH zF Rows.meetBoxesRow.laid w) false (World.laidAll zF os Rows.meetBoxesRow.laid)
    #[.agg #[.string ⟨#[]⟩,.string ⟨#[]⟩,.string ⟨#[]⟩,.string ⟨#[]⟩,.string ⟨#[]⟩,.string ⟨#[]⟩,.string ⟨#[]⟩,.string ⟨#[]⟩,.string ⟨#[]⟩,.string ⟨#[]⟩,.string ⟨#[]⟩,.string ⟨#[]⟩]] 8 (World.laidAll_os _ _ _)
    (World.shaped_of_ZipB (by kernel_rfl) (by kernel_rfl)) (by kernel_rfl) (by kernel_rfl) (by kernel_rfl)
    (by rw[MakeChecks.laidMetH_plain _ _ _ (by kernel_rfl)];exact laidMet_laidAll _ (by kernel_rfl) (by kernel_rfl))) ?_
 intro a args p P K base B h s z;have j:∀(k:Nat) l m,Tryz.f3.params[k]? =some l->args[k]? =some m->Value.okWide zF a .any base l m:=B;have g:=h;obtain⟨F,Q,r,t,rfl,_,_⟩:=h;have d:DataW.TrodAll enc zF a 0 (λ_=>true) true Tryz.f3.params.toList args.toList p F:=r;rw[Tryz.params3] at d j;obtain⟨n,S,L,M,G,R,O,rfl,rfl,q,d⟩:=trodAll_cons d;obtain⟨rfl,rfl,rfl⟩:=trodAll_nil d;obtain rfl:args= #[n]:=by cases args;simp_all
 obtain⟨rfl,rfl⟩:=trodVars_none t;simp only[List.append_nil] at g;have x:∀b∈G,b.block<a.heap.size:=λb c=>by simpa using g.lt b (by simpa using c)
 have E:=q;obtain⟨b,c,rfl⟩:=yji (j 0 27 n rfl rfl);have f:laidMet zF Rows.meetBoxesRow.laid a:=by rw[<-MakeChecks.laidMetH_plain _ _ _ (by kernel_rfl)];exact s
 have D:Wd a:=z0v f (.tail _ (.tail _ (.head _))) z;have y:Pw a:=z0w f (.tail _ (.tail _ (.tail _ (.tail _ (.tail _ (.tail _ (.head _)))))));have A:Spw a:=z80 f (.tail _ (.tail _ (.tail _ (.tail _ (.tail _ (.tail _ (.tail _ (.head _))))))));refine(yib b c a ⟨D,y,A⟩).mono λN J ⟨u,i⟩=>?_;subst u;have I:=Below.trod zgh (by kernel_rfl) (of_decide_eq_true (by kernel_rfl)) E i (λb c=>x b (by simp[c]));exact⟨_,rfl,_,_,_,[],_,[],g,trodAll_mk1 (shut_bool Tryz.underlying4 _),trodAll_mk1 I,rfl,i.frame _,λe=>by cases e⟩
theorem ykw:mapsRowed zF=zt:=by kernel_rfl
theorem ylr:namedTie zF Rows.meetBoxesRow.named Rows.meetBoxesSpec.vars=true:=by kernel_rfl
theorem yjj:(Rows.meetBoxesRow.inPlace==Tryz.prog.inPlace 3)=true:=by kernel_rfl
theorem yls:(Rows.meetBoxesRow.unfollowed==Tryz.prog.unfollowed 3)=true:=by kernel_rfl
theorem ylt:(Rows.meetBoxesRow.recurses==Tryz.prog.recurses 3)=true:=by kernel_rfl
theorem yjk:(Rows.meetBoxesRow.named==Tryz.prog.varsNamed 3)=true:=by kernel_rfl
theorem yjl:Tryz.prog.stopsHeard=zt:=by kernel_rfl
theorem yjm:Tryz.prog.mayEnter=zt:=by kernel_rfl
theorem yic:(Rows.meetBoxesRow.lifted==Tryz.prog.liftsFinal)=true:=by kernel_rfl
theorem ykx:(Tryz.prog.make==some Rows.meetBoxesRow.make)=true:=by kernel_rfl
theorem yky:(Rows.meetBoxesRow.plainKeys==Tryz.prog.plainKeys)=true:=by kernel_rfl
theorem ykz:Tryz.pinned.checked.prog.funcNamed Rows.meetBoxesRow.func=some 3:=by kernel_rfl
theorem ylu:joinedFacts zF 3 Tryz.f3 Rows.meetBoxesSpec Rows.meetBoxesRow=true:=by
 unfold joinedFacts;simp only[Bool.and_eq_true]
 repeat' apply And.intro
 all_goals first|(with_reducible first|exact zgh|exact ykw|exact ylr|exact yjj|exact yls|exact ylt|exact yjk|exact yjl|exact yjm|exact yic|exact ykx|exact yky)|kernel_rfl
theorem zzl:Rows.MeetBoxesSaid:=
 OpenClaim.holds_of_wide 3 Tryz.f3 rfl rfl rfl rfl rfl rfl rfl ⟨rfl,rfl,rfl,rfl,rfl⟩ rfl rfl rfl rfl rfl ykz Tryz.func3 ylu
  (of_decide_eq_true (by kernel_rfl)) (by unfold Func.isWrapper;first|(rw[if_pos (by decide+kernel)];kernel_rfl)|(rw[if_neg (by decide+kernel)];exact⟨rfl,rfl⟩))
  (λc d a b _=>zp4 c d a b)
end
end Go.Proofs.YtjmljcdbjakefaaGreatDoor
