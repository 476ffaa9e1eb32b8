/- kingpostref01.times. -/
import Derived.Test.YthfpmfdiamldoaaGreatDoorF17
set_option maxRecDepth 100000
set_option maxHeartbeats 8000000
open Go renaming World → zA, Calls → zC
open Go.RowKit renaming Below → zB, intOf → zL
open Go.Lib renaming decDigits → zD
open Go.Proofs.Tryz renaming prog → zF
open Go.World renaming size_alloc → zH
open Go.IntWalk renaming i64_in → zI
open Go.RowKit.Below renaming refl → zM
open Nat renaming le_refl → zN, zero_le → zR
open List renaming length_map → zV, getElem_mem → zY, getElem?_eq_getElem → yB
namespace Go.Proofs.YthfpmfdiamldoaaGreatDoor
section
open Go.RowKit Lib Str Limb
theorem z14 {a b:List Nat} (sa:zal B6 a) (sb:zal B6 b) (i:Nat) (hi:i<a.length):
 (zay B6 (a[i]?.getD 0) b i (zbp B6 a b i) (b.length+1)).2=0:=by
 have hB:2<=B6:=by decide
 obtain⟨t1,t2,t3⟩:=zdf hB sa sb i (Nat.le_of_lt hi)
 obtain⟨r1,r2,r3,r4⟩:=zfw hB (zaj sa (by decide) i) sb i t2 (b.length+1) (by rw[t1];omega)
 rw[List.take_of_length_le (by omega),t3] at r4
 have k1:valL B6 (a.take i)*valL B6 b+B6^i*(a[i]?.getD 0*valL B6 b)=valL B6 (a.take (i+1))*valL B6 b:=by
  rw[zbo,Nat.add_mul,Nat.mul_assoc]
 rw[k1] at r4
 have h1:=zb6 (zcu sa (i+1))
 rw[List.length_take,Nat.min_eq_left (by omega)] at h1
 have h2:=zb6 sb
 have h3:valL B6 (a.take (i+1))*valL B6 b<B6^(i+1)*B6^b.length:=Nat.mul_lt_mul'' h1 h2
 rw[<-Nat.pow_add,show i+1+b.length=i+(b.length+1) by omega] at h3
 rcases Nat.eq_zero_or_pos (zay B6 (a[i]?.getD 0) b i (zbp B6 a b i) (b.length+1)).2 with h|h
 ·exact h
 ·have:=Nat.mul_le_mul_left (B6^(i+(b.length+1))) h
  omega
theorem zzr {x:Nat} {b out:List Nat} (i:Nat) (so:zal B6 (zay B6 x b i out b.length).1) (hlen:i+b.length<(zay B6 x b i out b.length).1.length) (h:(zay B6 x b i out b.length).2=0):
 (zay B6 x b i out (b.length+1)).1=(zay B6 x b i out b.length).1:=by
 show(zay B6 x b i out b.length).1.set (i+b.length) (((zay B6 x b i out b.length).1[i+b.length]?.getD 0+x*b[b.length]?.getD 0+(zay B6 x b i out b.length).2)%B6)=_
 rw[h,List.getElem?_eq_none (l:=b) (zN _)]
 have:=zaj so (by decide) (i+b.length)
 simp only[Option.getD_none,Nat.mul_zero,Nat.add_zero]
 rw[Nat.mod_eq_of_lt this,yB hlen]
 simp
theorem znx (va vb:Value) (a b:List Nat) (w:zA) (ha:Sl w va (a.map I)) (hb:Sl w vb (b.map I)) (sa:zal B6 a) (sb:zal B6 b) (la:a.length<=1000) (lb:b.length<=1000):
 zC zF 203 #[va,vb] w (zht w (zaa B6 (valL B6 a*valL B6 b))):=by
 rw[<-zjp (B:=B6) (by decide) sa sb]
 obtain⟨i0,hi,hz0,hz1,hz2⟩:=info_parts zdv
 have ha':=ha;have hb':=hb
 obtain⟨pa,ca,rfl,hca,hcella⟩:=ha
 obtain⟨pb,cb,rfl,hcb,hcellb⟩:=hb
 have HA:=hid ha';clear ha' hcella hca
 have HB:=hid hb';clear hb' hcellb hcb
 have SA:=hid sa;clear sa
 have SB:=hid sb;clear sb
 simp only[zV] at*
 go_enter Tryz.func203,Tryz.ntmps203
 go_wp2_with (at_make;refine wpList_make_full _ rfl _ _ 107 rfl w.heap.size 3 i0 (.int .i64 0) 1 Tryz.underlying107 hi hz0 hz1 .i64 .i64 _ _ (a.length+b.length+1) rfl rfl (by omega) (by omega) (by rw[hz2];omega) (by unfold maxLen;omega) (zN _) ?_)
 intro w0 hown hgrow
 rw[toList_madeCells_one,<-show(List.replicate (a.length+b.length+1) 0).map I=List.replicate (a.length+b.length+1) (.int .i64 0) by simp] at hown
 obtain⟨hrow, -⟩:=Row.of_own hown
 have hB0:zB w.heap.size w w0:=(zM _ _).grown hgrow (zN _) (λ_ e=>by cases e)
 clear hown hgrow
 obtain⟨N,hN⟩:∃N,N=a.length+b.length+1:=⟨_,rfl⟩
 have hN2:(a.length:Int)+b.length+1=N:=by omega
 rw[<-hN] at hrow⊢
 have HN:=hid hN;clear hN
 obtain⟨g,hg⟩:∃g,g=w.heap.size:=⟨_,rfl⟩
 rw[<-hg] at hrow⊢
 have HG:=hid hg;clear hg
 clear hN2
 go_wp2
 go_loopw [6] (λi wr=>∃k:Nat,k<=a.length/\i=.int .i64 k/\Row wr g N (zbp B6 a b k)/\zB w.heap.size w wr)
  (λi _=>a.length-(zL i).toNat)
 case atStart=>exact⟨0,zR _,rfl,by rw[zbp,<-HN.out];exact hrow,hB0⟩
 case round=>
  clear hrow hB0
  obtain⟨i,hk,rfl,hrow,hB⟩:=hrel
  by_cases hlt:i<a.length
  ·obtain⟨ba,offa,rfl,hba,hcapa,hcx⟩:=(HA.out.below hB).at hlt
   have hxs:=zaj SA.out (by decide) i
   obtain⟨ts1,ts2, -⟩:=zdf (B:=B6) (by decide) SA.out SB.out i hk
   have hst:zbp B6 a b (i+1)=(zay B6 (a[i]?.getD 0) b i (zbp B6 a b i) (b.length+1)).1:=rfl
   have hre:=z14 SA.out SB.out i hlt
   rw[<-HN.out] at ts1
   have HST:=hid hst;clear hst
   have HRE:=hid hre;clear hre
   generalize zbp B6 a b i=L at*
   have TS1:=hid ts1;clear ts1
   have TS2:=hid ts2;clear ts2
   have hxe:a[i]?.getD 0<1000000:=hxs
   clear hxs hcx
   have HXA:=hid hxe;clear hxe
   obtain⟨x,hx⟩:∃x,x=a[i]?.getD 0:=⟨_,rfl⟩
   rw[<-hx] at HST HRE HXA
   have HXE:=hid hx;clear hx
   go_wp2
   obtain⟨wo,hwo⟩:∃wo:zA,wo=wr:=⟨_,rfl⟩
   have HWO:=hid hwo;clear hwo
   go_loopw [7,8] (λc j wr=>∃k:Nat,k<=b.length+1/\j=.int .i64 k/\c=I (zay B6 x b i L k).2/\Row wr g N (zay B6 x b i L k).1/\zB w.heap.size w wr)
    (λ_ j _=>b.length+1-(zL j).toNat)
   case atStart=>exact⟨0,zR _,rfl,rfl,hrow,hB⟩
   case round=>
    clear hrow hB
    obtain⟨k,hkk,rfl,rfl,hrow,hB⟩:=hrel
    have HN3:N=a.length+b.length+1:=HN.out
    obtain⟨r1,r2,r3, -⟩:=zfw (B:=B6) (by decide) (show x<B6 from HXA.out) SB.out i TS2.out k (by rw[TS1.out];omega)
    by_cases hgo:k<b.length\/0<(zay B6 x b i L k).2
    ·have hlk:k<b.length+1:=by
      rcases hgo with h|h
      ·omega
      ·rcases Nat.lt_or_ge k (b.length+1) with h'|h'
       ·exact h'
       ·obtain rfl:k=b.length+1:=by omega
        rw[HRE.out] at h;omega
     have hys:=zaj SB.out (by decide) k
     have hst:zay B6 x b i L (k+1)=((zay B6 x b i L k).1.set (i+k) (((zay B6 x b i L k).1[i+k]?.getD 0+x*b[k]?.getD 0+(zay B6 x b i L k).2)%B6),((zay B6 x b i L k).1[i+k]?.getD 0+x*b[k]?.getD 0+(zay B6 x b i L k).2)/B6):=rfl
     have HST2:=hid hst;clear hst
     generalize zay B6 x b i L k=r at*
     obtain⟨l,c⟩:=r
     dsimp only at*
     have hlen:i+k<l.length:=by rw[r1,TS1.out];omega
     have hcell:=hrow.cell (getD_some hlen)
     have hfz:=hrow.frozen (i+k)
     have hzs:=zaj r2 (by decide) (i+k)
     have hc':c<1000000:=r3
     have hz':l[i+k]?.getD 0<1000000:=hzs
     have hy':b[k]?.getD 0<1000000:=hys
     have hx':x<1000000:=HXA.out
     have hb2:i+k<N:=by omega
     have hiN:(0:Int)<=(i:Int)+k:=by omega
     have hiN2:(i:Int)+k<N:=by omega
     have LB:=hid λ(W:zA) (h:zB w.heap.size w W)=>zgz _ b k W (HB.out.below h) (by omega)
     obtain⟨ba',offa',e',hba,hcapa,hcx⟩:=(HA.out.below hB).at hlt
     simp only[Option.some.injEq,Addr.mk.injEq,and_true] at e'
     obtain⟨rfl,rfl⟩:=e'
     rw[<-HXE.out] at hcx
     have HROW:=hid hrow
     clear r1 r2 r3 hzs hys hrow hlen HN3
     generalize hzz:l[i+k]?.getD 0=z at*
     have HZZ:=hid hzz;clear hzz
     generalize b[k]?.getD 0=y at*
     have hp0:(0:Int)<=(x:Int)*y:=by rw[<-Int.natCast_mul];omega
     have hp1:(x:Int)*y<=999998000001:=by
      have:=Nat.mul_le_mul (show x<=999999 by omega) (show y<=999999 by omega)
      rw[<-Int.natCast_mul];omega
     have e1:IntKind.i64.wrap ((x:Int)*y)=(x:Int)*y:=zI _ (by omega)
     have e2:IntKind.i64.wrap ((z:Int)+(x:Int)*y)=(z:Int)+(x:Int)*y:=zI _ (by omega)
     have e3:IntKind.i64.wrap ((z:Int)+(x:Int)*y+c)=(z:Int)+(x:Int)*y+c:=zI _ (by omega)
     have e4:IntKind.i64.wrap ((i:Int)+k)=(i:Int)+k:=zI _ (by omega)
     have e5:((i:Int)+k).toNat=i+k:=by omega
     have HP:=hid (⟨hp0,hp1⟩:_/\_);clear hp0 hp1
     have h3:k<b.length\/(¬k<b.length/\0<c):=by omega
     clear hgo
     rcases h3 with h1|⟨h1,h2⟩<;>(
      go_wp2
      go_quiet ((go_at_call 201;exact Calls.quiet_of_same (zi5 (LB.out _ (hB.trans (zzD (zM _ _) _))))))
      clear e1 e2 e3
      have hp0:=HP.out.1;have hp1:=HP.out.2
      go_wp2
      go_roundw
      case rel=>
       refine⟨k+1,by omega,by go_num,?_,?_,?_⟩
       ·rw[HST2.out];simp[B6]
       ·rw[HST2.out]
        have:=Row.set (w:=wr.drewN nq) (show Row (wr.drewN nq) g N l from HROW.out) (i+k) ((z+x*y+c)%B6)
        have e:I ((z+x*y+c)%B6)=.int .i64 (((z:Int)+x*y+c)%1000000):=by simp[I,B6]
        rw[e] at this
        exact this
       ·exact(zzD hB _).setCell (by rw[HG.out];exact zN _) _
      case measure=>simp[zL];omega)
    ·have h1:¬k<b.length:=λh=>hgo (.inl h)
     have h2:(zay B6 x b i L k).2=0:=by have:=λh=>hgo (.inr h);omega
     have hres:(zay B6 x b i L k).1=zbp B6 a b (i+1):=by
      rw[HST.out]
      rcases Nat.lt_or_ge k (b.length+1) with h|h
      ·obtain rfl:k=b.length:=by omega
       exact(zzr i r2 (by rw[r1,TS1.out];omega) h2).symm
      ·obtain rfl:k=b.length+1:=by omega
       rfl
     rw[h2] at*
     rw[hres] at hrow
     have HROW:=hid hrow;clear hrow hres r1 r2 r3 hgo
     go_wp2
     go_roundw
     case rel=>exact⟨i+1,by omega,by go_num,HROW.out,hB⟩
     case measure=>simp[zL];omega
  ·obtain rfl:i=a.length:=by omega
   obtain⟨ts1,ts2, -⟩:=zdf (B:=B6) (by decide) SA.out SB.out a.length hk
   rw[<-HN.out] at ts1
   have hsl:=hrow.sl
   have hown:=hrow.own (base:=w.heap.size) (by rw[HG.out];exact zN _)
   rw[ts1] at hsl
   have HE:=hid (⟨ts1,hown⟩:_/\_)
   generalize hL:zbp B6 a b a.length=L at*
   have HSL:=hid hsl;clear hsl hown hrow ts1 ts2
   have HLL:=hid hL;clear hL
   go_wp2_with fail
   refine(zeb _ _ _ L wr HSL.out (by rw[HE.out.1,HN.out];omega)).mono ?_
   rintro e w1 ⟨rfl,rfl⟩
   go_wp2_with fail
   go_ret
   have:=zeq HE.out.2 rfl
   rw[HE.out.1] at this
   exact⟨_,rfl,this,hB⟩
end
section
open Go.RowKit Go.Shelf Lib Str Limb
attribute [local go_sem] Oper.semAt_some
def zh5 (w:zA) (z:Int) (e:Ending) (w':zA):Prop:=
 ∃m v n,e=.returned (.agg #[.bool m,v])/\sgn m n=z/\Sl w' v ((zaa B6 n).map I)/\zB w.heap.size w w'
theorem zny {w:zA} {n:Nat} {e:Ending} {w':zA} (h:zht w (zaa B6 n) e w'):∃p c,e=.returned (.slice p (zaa B6 n).length c)/\Sl w' (.slice p (zaa B6 n).length c) ((zaa B6 n).map I)/\zB w.heap.size w w':=by
 obtain⟨v,rfl,hown,hB⟩:=h
 have hs:=Sl.of_own hown
 obtain⟨p,c,e, -⟩:=id hs
 rw[zV] at e
 subst e
 exact⟨p,c,rfl,hs,hB⟩
structure BigS (W:zA) (mm:Bool) (n ic ia st:Nat) (b:Nat×Value) (f:Nat->Bool) (X:zA):Prop where
 pre:zB W.heap.size W X
 cv:f ic=true->∃p c,b.2=.slice p (zaa B6 n).length c/\Sl X b.2 ((zaa B6 n).map I)
 al:f ia=true->W.heap.size<=b.1/\(f st=false->X.heap[b.1]? =some (.cells #[.bool false,.slice none 0 0] 191 (0,0)))
 fin:f st=true->X.heap[b.1]? =some (.cells #[.bool mm,b.2] 191 (0,0))
theorem BigS.congr {W:zA} {mm:Bool} {n ic ia st:Nat} {b:Nat×Value} {f g:Nat->Bool} {X:zA} (h:BigS W mm n ic ia st b f X) (e1:g ic=f ic) (e2:g ia=f ia) (e3:g st=f st):BigS W mm n ic ia st b g X:=
 ⟨h.pre,by rw[e1];exact h.cv,by rw[e2,e3];exact h.al,by rw[e3];exact h.fin⟩
theorem BigS.call {W:zA} {mm:Bool} {n ic ia st:Nat} {b:Nat×Value} {f g:Nat->Bool} {X X':zA} {p:Option Addr} {c:Nat} (h:BigS W mm n ic ia st b f X) (_:f ic=false) (h3:f st=false) (_:g ic=true) (e2:g ia=f ia) (e3:g st=f st)
 (hb:zB X.heap.size X X') (hs:Sl X' (.slice p (zaa B6 n).length c) ((zaa B6 n).map I)):BigS W mm n ic ia st (b.1,.slice p (zaa B6 n).length c) g X':=
 ⟨h.pre.trans (hb.mono h.pre.size),λ_=>⟨p,c,rfl,hs⟩,λk=>by
   rw[e2] at k
   obtain⟨k1,k2⟩:=h.al k
   refine⟨k1,λk3=>?_⟩
   have:=k2 (by rw[<-e3];exact k3)
   exact(hb.block _ (Array.getElem?_eq_some_iff.1 this).1).trans this,λk=>by rw[e3,h3] at k;cases k⟩
theorem BigS.new {W:zA} {mm:Bool} {n ic ia st:Nat} {b:Nat×Value} {f g:Nat->Bool} {X:zA} (h:BigS W mm n ic ia st b f X) (h3:f st=false) (e1:g ic=f ic) (e3:g st=f st):
 BigS W mm n ic ia st (X.heap.size,b.2) g (X.alloc (.cells #[.bool false,.slice none 0 0] 191)):=by
 have ha:zB X.heap.size X (X.alloc (.cells #[.bool false,.slice none 0 0] 191)):=(zM _ X).alloc (zN _) _
 refine⟨h.pre.trans (ha.mono h.pre.size),λk=>?_,λ_=>⟨h.pre.size,λ_=>heap_alloc_new X _⟩,λk=>by rw[e3,h3] at k;cases k⟩
 rw[e1] at k
 obtain⟨p,c,e,hs⟩:=h.cv k
 exact⟨p,c,e,hs.below ha⟩
theorem BigS.put {W:zA} {mm:Bool} {n ic ia st:Nat} {b:Nat×Value} {f g:Nat->Bool} {X:zA} (h:BigS W mm n ic ia st b f X) (h1:f ic=true) (h2:f ia=true) (h3:f st=false) (e3:g st=true):
 BigS W mm n ic ia st b g ((X.setCell ⟨b.1,0,none⟩ (.bool mm)).setCell ⟨b.1,1,none⟩ b.2):=by
 obtain⟨k1,k2⟩:=h.al h2
 have hx:=k2 h3
 obtain⟨p,c,e,hs⟩:=h.cv h1
 have c0:X.cell? ⟨b.1,0,none⟩=some (.bool false):=by simp[World.cell?,hx]
 have c1:(X.setCell ⟨b.1,0,none⟩ (.bool mm)).cell? ⟨b.1,1,none⟩=some (.slice none 0 0):=(World.cell?_setCell_other _ _ _ (.bool mm) (show(⟨b.1,0,none⟩:Addr)≠⟨b.1,1,none⟩ by simp)).trans (by simp[World.cell?,hx])
 refine⟨(h.pre.setCell (p:=⟨b.1,0,none⟩) k1 _).setCell (p:=⟨b.1,1,none⟩) k1 _,λ_=>⟨p,c,e,?_⟩,λ_=>⟨k1,λk=>by rw[e3] at k;cases k⟩,λ_=>?_⟩
 ·exact(hs.set c0 (λx=>by simp[I]) _).set c1 (λx=>by simp[I]) _
 ·exact(λ(Y:zA) (hY:Y.heap[b.1]? =some (.cells #[.bool false,.slice none 0 0] 191 (0,0)))=>by simp[World.setCell,Array.getElem?_modify,hY]:∀Y:zA,Y.heap[b.1]? =some (.cells #[.bool false,.slice none 0 0] 191 (0,0))->((Y.setCell ⟨b.1,0,none⟩ (.bool mm)).setCell ⟨b.1,1,none⟩ b.2).heap[b.1]? =some (.cells #[.bool mm,b.2] 191 (0,0))) X hx
theorem ziy (w:zA) (m m':Bool) (vx vy:Value):∃W3,W3=((w.alloc (.cells #[.bool m,vx] 191)).alloc (.cells #[.bool m',vy] 191)).alloc (.cells #[.bool false,.slice none 0 0] 191)/\
 zB w.heap.size w W3/\W3.heap.size=w.heap.size+3/\W3.heap[w.heap.size]? =some (.cells #[.bool m,vx] 191 (0,0))/\W3.heap[w.heap.size+1]? =some (.cells #[.bool m',vy] 191 (0,0))/\W3.heap[w.heap.size+1+1]? =some (.cells #[.bool false,.slice none 0 0] 191 (0,0)):=by
 refine⟨_,rfl,(((zM _ w).alloc (zN _) _).alloc (by simp) _).alloc (by simp;omega) _,by simp,?_,?_,?_⟩
 ·exact(Below.heap_alloc _ _ _ (by simp only[zH];omega)).trans ((Below.heap_alloc _ _ _ (by simp only[zH];omega)).trans (heap_alloc_new w _))
 ·refine(Below.heap_alloc _ _ _ (by simp only[zH];omega)).trans ?_
  have:=heap_alloc_new (w.alloc (.cells #[.bool m,vx] 191)) (.cells #[.bool m',vy] 191)
  rwa [zH] at this
 ·have:=heap_alloc_new ((w.alloc (.cells #[.bool m,vx] 191)).alloc (.cells #[.bool m',vy] 191)) (.cells #[.bool false,.slice none 0 0] 191)
  rwa [zH,zH] at this
theorem zhr {X:zA} {R:Nat} (r0:X.cell? ⟨R,0,none⟩=some (.bool false)) (r1:X.cell? ⟨R,1,none⟩=some (.slice none 0 0)) (q:Bool) (v vv:Value) (l:List Nat) (hs:Sl X vv (l.map I)) {B:Nat} {w:zA} (hb:zB B w X) (hR:B<=R):
 ((X.setCell ⟨R,0,none⟩ (.bool q)).setCell ⟨R,1,none⟩ v).cell? ⟨R,0,none⟩=some (.bool q)/\((X.setCell ⟨R,0,none⟩ (.bool q)).setCell ⟨R,1,none⟩ v).cell? ⟨R,1,none⟩=some v/\Sl ((X.setCell ⟨R,0,none⟩ (.bool q)).setCell ⟨R,1,none⟩ v) vv (l.map I)/\zB B w ((X.setCell ⟨R,0,none⟩ (.bool q)).setCell ⟨R,1,none⟩ v):=by
 have e1:=(World.cell?_setCell_other _ _ _ (.bool q) (show(⟨R,0,none⟩:Addr)≠⟨R,1,none⟩ by simp)).trans r1
 have e0:=za9 (u:=.bool q) r0
 exact⟨(World.cell?_setCell_other _ _ _ v (show(⟨R,1,none⟩:Addr)≠⟨R,0,none⟩ by simp)).trans e0,za9 (u:=v) e1,(hs.set r0 (λx=>by simp[I]) _).set e1 (λx=>by simp[I]) _,
  (hb.setCell (p:=⟨R,0,none⟩) hR _).setCell (p:=⟨R,1,none⟩) hR _⟩
theorem zzs (m m':Bool) (a b:Nat):sgn (m !=m') (a*b)=sgn m a*sgn m' b:=by
 cases m<;>cases m'<;>simp[sgn,Int.mul_neg,Int.neg_mul]
theorem zrs (m m':Bool) (vx vy:Value) (nx ny:Nat) (w:zA) (hx:Sl w vx ((zaa B6 nx).map I)) (hy:Sl w vy ((zaa B6 ny).map I)) (lx:(zaa B6 nx).length<=1000) (ly:(zaa B6 ny).length<=1000):
 zC zF 253 #[.agg #[.bool m,vx],.agg #[.bool m',vy]] w (zh5 w (sgn m nx*sgn m' ny)):=by
 obtain⟨px,cx,rfl, -⟩:=id hx
 obtain⟨py,cy,rfl, -⟩:=id hy
 simp only[zV] at*
 have hpl:=λW h1 h2=>znx (.slice px (zaa B6 nx).length cx) (.slice py (zaa B6 ny).length cy) (zaa B6 nx) (zaa B6 ny) W h1 h2 (zak (by decide) _) (zak (by decide) _) lx ly
 rw[zam (B:=B6) (by decide),zam (B:=B6) (by decide)] at hpl
 generalize (zaa B6 nx).length=kx at*
 generalize (zaa B6 ny).length=ky at*
 have HPL:=hid hpl;clear hpl
 obtain⟨W3,hW3,hB3,hz3,b2,b3,b4⟩:=ziy w m m' (.slice px kx cx) (.slice py ky cy)
 have HX:=hid (hx.below hB3);clear hx
 have HY:=hid (hy.below hB3);clear hy
 have HW3:=hid hW3
 have cells:∀X:zA,zB W3.heap.size W3 X->X.cell? ⟨w.heap.size,0,none⟩=some (.bool m)/\X.cell? ⟨w.heap.size,1,none⟩=some (.slice px kx cx)/\X.cell? ⟨w.heap.size+1,0,none⟩=some (.bool m')/\X.cell? ⟨w.heap.size+1,1,none⟩=some (.slice py ky cy):=λX h=>by
  have e2:=(h.block w.heap.size (by omega)).trans b2
  have e3:=(h.block (w.heap.size+1) (by omega)).trans b3
  refine⟨?_,?_,?_,?_⟩<;>simp[World.cell?,e2,e3]
 have CL:=hid cells
 have H3:=hid (⟨hB3,hz3,b4⟩:_/\_/\_)
 clear cells hB3 hz3 b2 b3 b4 hW3 lx ly
 go_enter Tryz.func253,Tryz.ntmps253
 go_wp2
 rw[<-HW3.out]
 refine zc4 (λ(b:Nat×Value) i=>([.pointer (some ⟨w.heap.size,0,none⟩),.bool m,.pointer (some ⟨w.heap.size+1,0,none⟩),.bool m',.bool (m !=m'),.pointer (some ⟨w.heap.size,1,none⟩),.slice px kx cx,.pointer (some ⟨w.heap.size+1,1,none⟩),.slice py ky cy,b.2,.agg #[.bool (m !=m'),b.2],.pointer (some ⟨b.1,0,none⟩),undef]:List Value)[i]?.getD undef)
  (BigS W3 (m !=m') (nx*ny) 9 11 12) (by kernel_rfl) (by kernel_rfl) (0,.slice none 0 0) ⟨(zM _ W3).drew,λk=>(by cases k),λk=>(by cases k),λk=>(by cases k)⟩ λb=>?_
 refine zag (.pointer (some ⟨w.heap.size,0,none⟩)) (by rfl) (by rfl) (λf W' h=>h.congr rfl rfl rfl) (λf W' hf h=>by go_simp) ?_
 try simp only[zzQ]
 refine zag (.bool m) (by rfl) (by rfl) (λf W' h=>h.congr rfl rfl rfl) (λf W' hf h=>by have g:=CL.out _ h.pre;obtain⟨q0,q1,q2,q3⟩:=g;go_simp) ?_
 try simp only[zzQ]
 refine zag (.pointer (some ⟨w.heap.size+1,0,none⟩)) (by rfl) (by rfl) (λf W' h=>h.congr rfl rfl rfl) (λf W' hf h=>by go_simp) ?_
 try simp only[zzQ]
 refine zag (.bool m') (by rfl) (by rfl) (λf W' h=>h.congr rfl rfl rfl) (λf W' hf h=>by have g:=CL.out _ h.pre;obtain⟨q0,q1,q2,q3⟩:=g;go_simp) ?_
 try simp only[zzQ]
 refine zag (.bool (m !=m')) (by rfl) (by rfl) (λf W' h=>h.congr rfl rfl rfl) (λf W' hf h=>by cases m<;>cases m'<;>go_simp) ?_
 try simp only[zzQ]
 refine zag (.pointer (some ⟨w.heap.size,1,none⟩)) (by rfl) (by rfl) (λf W' h=>h.congr rfl rfl rfl) (λf W' hf h=>by go_simp) ?_
 try simp only[zzQ]
 refine zag (.slice px kx cx) (by rfl) (by rfl) (λf W' h=>h.congr rfl rfl rfl) (λf W' hf h=>by have g:=CL.out _ h.pre;obtain⟨q0,q1,q2,q3⟩:=g;go_simp) ?_
 try simp only[zzQ]
 refine zag (.pointer (some ⟨w.heap.size+1,1,none⟩)) (by rfl) (by rfl) (λf W' h=>h.congr rfl rfl rfl) (λf W' hf h=>by go_simp) ?_
 try simp only[zzQ]
 refine zag (.slice py ky cy) (by rfl) (by rfl) (λf W' h=>h.congr rfl rfl rfl) (λf W' hf h=>by have g:=CL.out _ h.pre;obtain⟨q0,q1,q2,q3⟩:=g;go_simp) ?_
 try simp only[zzQ]
 refine zdc b.2 (by rfl) (by rfl) (λf W' hf h C' hC'=>by
  have h9:=hf.self
  have h12:=(hf.no (j:=12) (hf.no (j:=10) hf.self (by kernel_rfl)) (by kernel_rfl))
  go_simp
  refine(HPL.out W' (HX.out.below h.pre) (HY.out.below h.pre)).mono ?_
  intro e w' hr
  obtain⟨p,c,rfl,hs,hb⟩:=zny hr
  refine⟨_,rfl,hC' (b.1,.slice p (zaa B6 (nx*ny)).length c) w' (λi hi=>?_) (h.call h9 h12 rfl rfl rfl hb hs)⟩
  match i,hi with
  |0,_|1,_|2,_|3,_|4,_|5,_|6,_|7,_|8,_|11,_|12,_=>rfl
  |9,hi=>rw[h9] at hi;cases hi
  |10,hi=>rw[hf.no (j:=10) hf.self (by kernel_rfl)] at hi;cases hi
  |_+13,_=>rfl) ?_
 try simp only[zzQ]
 refine zag (.agg #[.bool (m !=m'),b.2]) (by rfl) (by rfl) (λf W' h=>h.congr rfl rfl rfl) (λf W' hf h=>by
  obtain⟨p,c,e, -⟩:=h.cv (hf.done 9 (by kernel_rfl))
  obtain⟨b1,v⟩:=b
  dsimp only at e
  subst e
  go_simp) ?_
 try simp only[zzQ]
 refine zdc (.pointer (some ⟨b.1,0,none⟩)) (by rfl) (by rfl) (λf W' hf h C' hC'=>by
  have h12:=(hf.no (j:=12) hf.self (by kernel_rfl))
  have:=hC' (W'.heap.size,b.2) (W'.alloc (.cells #[.bool false,.slice none 0 0] 191)) (λi hi=>?_) (h.new h12 rfl rfl)
  ·go_simp
   exact this
  ·match i,hi with
   |0,_|1,_|2,_|3,_|4,_|5,_|6,_|7,_|8,_|9,_|10,_|12,_=>rfl
   |11,hi=>rw[hf.self] at hi;cases hi
   |_+13,_=>rfl) ?_
 try simp only[zzQ]
 refine zbv undef (by rfl) (by rfl) (λf W' hf h C' hC'=>by
  have h9:=hf.done 9 (by kernel_rfl)
  have h11:=hf.done 11 (by kernel_rfl)
  have h12:=hf.self
  obtain⟨k1,k2⟩:=h.al h11
  have hx:=k2 h12
  have d0:W'.cell? ⟨b.1,0,none⟩=some (.bool false):=by simp[World.cell?,hx]
  have d1:W'.cell? ⟨b.1,1,none⟩=some (.slice none 0 0):=by simp[World.cell?,hx]
  have f0:W'.frozen? ⟨b.1,0,none⟩=false:=by simp[World.frozen?,hx]
  have f1:W'.frozen? ⟨b.1,1,none⟩=false:=by simp[World.frozen?,hx]
  have:=hC' _ (h.put h9 h11 h12 rfl)
  obtain⟨p,c,e, -⟩:=h.cv h9
  rw[e] at this⊢
  clear hC' h k2 hx e
  go_simp
  exact this) ?_
 try simp only[Act.put]
 refine ze1 λf X hf h=>?_
 obtain⟨p,c,e,hs⟩:=h.cv (hf 9 (by decide))
 have hfin:=h.fin (hf 12 (by decide))
 obtain⟨k1, -⟩:=h.al (hf 11 (by decide))
 obtain⟨b1,v⟩:=b
 dsimp only at e hfin k1 hs
 subst e
 have hres:=(h.pre.block (w.heap.size+1+1) (by have:=H3.out.2.1;omega)).trans H3.out.2.2
 have HS:=hid hs
 have HB:=hid (H3.out.1.trans (h.pre.mono (by have:=H3.out.2.1;omega)))
 have hk:w.heap.size+1+1<b1:=by have:=H3.out.2.1;omega
 clear h hf hs k1
 have HZ:=hid (zzs m m' nx ny)
 have HR:=hid hres
 have c0:X.cell? ⟨b1,0,none⟩=some (.bool (m !=m')):=by simp[World.cell?,hfin]
 have c1:X.cell? ⟨b1,1,none⟩=some (.slice p (zaa B6 (nx*ny)).length c):=by simp[World.cell?,hfin]
 have f0:X.frozen? ⟨b1,0,none⟩=false:=by simp[World.frozen?,hfin]
 have r0:X.cell? ⟨w.heap.size+1+1,0,none⟩=some (.bool false):=by simp[World.cell?,hres]
 have r1:X.cell? ⟨w.heap.size+1+1,1,none⟩=some (.slice none 0 0):=by simp[World.cell?,hres]
 have fr0:X.frozen? ⟨w.heap.size+1+1,0,none⟩=false:=by simp[World.frozen?,hres]
 have fr1:X.frozen? ⟨w.heap.size+1+1,1,none⟩=false:=by simp[World.frozen?,hres]
 have hne:w.heap.size+1+1≠b1:=by omega
 have hne2:b1≠w.heap.size+1+1:=by omega
 generalize hmm:(m !=m')=mm at*
 generalize hn:nx*ny=n at*
 clear hres hfin HPL HX HY HW3 CL H3 hmm hn
 by_cases h0:n=0
 ·subst h0
  rw[zaz] at*
  have d0:=(zau X (b:=w.heap.size+1+1) (b':=b1) 0 0 (.bool false) hne).trans r0
  have d1:=(zau X (b:=w.heap.size+1+1) (b':=b1) 1 0 (.bool false) hne).trans r1
  have hs1:=HS.out.set c0 (λx=>by simp[I]) (.bool false)
  have F:=hid (zhr d0 d1 false (.slice p 0 c) _ [] hs1 (HB.out.setCell (p:=⟨b1,0,none⟩) (by show w.heap.size<=b1;omega) _) (show w.heap.size<=w.heap.size+1+1 by omega))
  have HZ2:=hid HZ.out
  clear d0 d1 hs1
  simp only[List.length_nil] at*
  go_wp2
  obtain⟨g0,g1,g2,g3⟩:=F.out
  exact bodyPost_ret (v:=.agg #[.bool false,.slice p 0 c]) (by simp[results,Tryz.results253,go_sem,g0,g1]) rfl ⟨false,_,0,rfl,by rw[<-HZ2.out];cases mm<;>simp[sgn],by rw[zaz];exact g2,g3⟩
 ·have hl0:¬(zaa B6 n).length=0:=λh=>h0 ((zbd (B:=B6) (by decide) n).1 (List.length_eq_zero_iff.1 h))
  have hlb:(((zaa B6 n).length:Int)==0)=false:=by rw[beq_eq_false_iff_ne];omega
  have F:=hid (zhr r0 r1 mm (.slice p (zaa B6 n).length c) _ (zaa B6 n) HS.out HB.out (show w.heap.size<=w.heap.size+1+1 by omega))
  clear h0
  generalize (zaa B6 n).length=L at*
  go_wp2
  obtain⟨g0,g1,g2,g3⟩:=F.out
  exact bodyPost_ret (v:=.agg #[.bool mm,.slice p L c]) (by simp[results,Tryz.results253,go_sem,g0,g1]) rfl ⟨mm,_,n,rfl,HZ.out,g2,g3⟩
theorem zzt (a b:Nat) (ha:a<1000000000000000000) (hb:b<1000000000000000000) (w:zA):
 zC zF 107 #[I a,I b] w λe w'=>∃nd,e=.returned (I (Nat.gcd a b))/\w'=w.drewN nd:=by
 obtain⟨g,hg⟩:∃g,g=Nat.gcd a b:=⟨_,rfl⟩
 rw[<-hg]
 have HG:=hid hg;clear hg
 go_enter Tryz.func107,Tryz.ntmps107
 go_wp2
 go_loopw [0,1] (λx y wr=>∃m n:Nat,x=I m/\y=I n/\Hid (Nat.gcd m n=g)/\m<1000000000000000000/\n<1000000000000000000/\∃nd,wr=w.drewN nd)
  (λ_ y _=>(zL y).toNat)
 case atStart=>exact⟨a,b,rfl,rfl,HG.out.symm,ha,hb,0,rfl⟩
 case round=>
  clear ha hb
  obtain⟨m,n,rfl,rfl,hgm,m1,n1,nd,rfl⟩:=hrel
  by_cases h0:n=0
  ·subst h0
   have hm:m=g:=by have:=hgm.out;rw[Nat.gcd_zero_right] at this;exact this
   have HM:=hid hm;clear hm
   go_wp2
   go_ret
   exact⟨nd,by rw[HM.out];rfl,rfl⟩
  ·have hn0:((n:Int) !=0)=true:=by simp;omega
   obtain⟨t,ht⟩:∃t,t=m%n:=⟨_,rfl⟩
   have ht1:t<n:=by rw[ht];exact Nat.mod_lt _ (by omega)
   have hgt:=zh1 m n
   rw[<-ht] at hgt
   have hwr:IntKind.i64.wrap ((m:Int).tmod n)=(t:Int):=by
    rw[Int.tmod_eq_emod_of_nonneg (by omega),<-Int.natCast_emod,<-ht];exact zI _ (by omega)
   have hwe:((m:Int).tmod n)=(t:Int):=by rw[Int.tmod_eq_emod_of_nonneg (by omega),<-Int.natCast_emod,<-ht]
   have HGT:=hid hgt;have HW:=hid hwe;clear hgt ht hwe
   go_wp2
   (refine wp_region_quiet_lit (by kernel_rfl) (by kernel_rfl) (WQ.out ?_);(repeat(first|(apply WQ.read (by rfl);(focus(rintro W ⟨n,rfl⟩;go_simp;try with_reducible rfl));try simp only[zzQ])|(apply WQ.skip (by rfl);try simp only[zzQ])));refine WQ.nil ?_;rintro _ ⟨nq,rfl⟩)
   go_wp2
   go_roundw
   case rel=>exact⟨n,t,rfl,by first|rfl|(rw[HW.out])|(show Value.int .i64 _=Value.int .i64 _;congr 1;have:=HW.out;rw[<-this,Int.tmod_eq_emod_of_nonneg (by omega)]),HGT.out.trans hgm.out,n1,by omega,_,World.drewN_drewN _ _ _⟩
   case measure=>first|(show((m:Int).tmod n).toNat<(n:Int).toNat;rw[HW.out];omega)|(simp[zL];omega)
theorem zdd (l:List UInt8) (s:ByteArray) (hs:s=⟨l.toArray⟩):s.size=l.length/\∀k (hk:k<l.length) (hb:k<s.size),s[k]'hb=l[k]'hk:=by
 subst hs
 exact⟨by show l.toArray.size=_;simp,λk hk hb=>rfl⟩
theorem ztc (l:List UInt8):zds l↔l.length≠0/\¬(1<l.length/\l.head? =some 48)/\∀k (hk:k<l.length),48<=(l[k]'hk).toNat/\(l[k]'hk).toNat<=57:=by
 constructor
 ·rintro⟨h1,h2,h3⟩
  exact⟨λh=>h1 (List.length_eq_zero_iff.1 h),λ⟨h4,h5⟩=>by have:=h3 h5;omega,λk hk=>h2 _ (zY hk)⟩
 ·rintro⟨h1,h2,h3⟩
  refine⟨λh=>h1 (by rw[h];rfl),λc hc=>?_,λh=>?_⟩
  ·obtain⟨k,hk,rfl⟩:=List.getElem_of_mem hc
   exact h3 k hk
  ·exact Nat.le_antisymm (Nat.le_of_not_lt λh4=>h2 ⟨h4,h⟩) (by omega)
theorem zme (l:List UInt8) (hl:l.length<=1000000) (w:zA):
 zC zF 106 #[St l] w λe w'=>∃b,e=.returned (.bool b)/\(b=true↔zds l)/\w'=w:=by
 rw[ztc]
 obtain⟨s,hs⟩:∃s:ByteArray,s=⟨l.toArray⟩:=⟨_,rfl⟩
 obtain⟨b1,b2⟩:=zdd l s hs
 show zC _ _ #[.string ⟨l.toArray⟩] _ _
 rw[<-hs]
 have hh:∀hb:0<s.size,l.head? =some 48↔(s[0]'hb).toNat=48:=λhb=>by
  have h0:0<l.length:=by omega
  rw[b2 0 h0 hb,List.head?_eq_getElem?,yB h0]
  constructor
  ·intro h;injection h with h;rw[h];rfl
  ·intro h;congr 1;exact UInt8.toNat_inj.1 (by rw[h];rfl)
 obtain⟨Q,hQ⟩:∃Q:Prop,Q=(l.length≠0/\¬(1<l.length/\l.head? =some 48)/\∀k (hk:k<l.length),48<=(l[k]'hk).toNat/\(l[k]'hk).toNat<=57):=⟨_,rfl⟩
 rw[<-hQ]
 have q1:s.size=0->¬Q:=λh=>by rw[hQ];exact λk=>k.1 (by omega)
 have q2:∀hb:0<s.size,1<s.size->(s[0]'hb).toNat=48->¬Q:=λhb h h'=>by rw[hQ];exact λk=>k.2.1 ⟨by omega,(hh hb).2 h'⟩
 have q3:∀k (hb:k<s.size),((s[k]'hb).toNat<48\/57<(s[k]'hb).toNat)->¬Q:=λk hb h=>by
  rw[hQ];intro k'
  have:=k'.2.2 k (by omega);rw[b2 k (by omega) hb] at h;omega
 have q4:∀hb:0<s.size,¬(1<s.size/\(s[0]'hb).toNat=48)->(∀k (hb:k<s.size),48<=(s[k]'hb).toNat/\(s[k]'hb).toNat<=57)->Q:=λhb h h'=>by
  rw[hQ];exact⟨by omega,λ⟨k1,k2⟩=>h ⟨by omega,(hh hb).1 k2⟩,λk hk=>by have:=h' k (by omega);rwa [b2 k hk (by omega)] at this⟩
 have hsz:s.size<=1000000:=by omega
 have Q1:=hid q1;have Q2:=hid q2;have Q3:=hid q3;have Q4:=hid q4
 clear q1 q2 q3 q4 hh hQ b1 b2 hs hl
 go_enter Tryz.func106,Tryz.ntmps106
 by_cases h0:s.size=0
 ·have h0':((s.size:Int)==0)=true:=by simpa using h0
  go_wp2
  go_ret
  exact⟨false,rfl,⟨λh=>by simp at h,λh=>absurd h (Q1.out h0)⟩,rfl⟩
 ·have h0':((s.size:Int)==0)=false:=by simpa using h0
  have h00:0<s.size:=by omega
  by_cases h1:1<s.size
  ·have h1':(1:Int)<s.size:=by omega
   by_cases h2:(s[0]'h00).toNat=48
   ·have h2':(((s[0]'h00).toNat:Int)==48)=true:=by rw[h2];rfl
    have HN:=hid (Q2.out h00 h1 h2);clear h2
    go_wp2
    go_ret
    exact⟨false,rfl,⟨λh=>by simp at h,λh=>absurd h HN.out⟩,rfl⟩
   ·have h2':(((s[0]'h00).toNat:Int)==48)=false:=by rw[beq_eq_false_iff_ne];omega
    have HN:=hid h2;clear h2
    go_wp2
    go_loop [3] (λi=>∃k:Nat,k<=s.size/\i=.int .i64 k/\Hid (∀j (hb:j<s.size),j<k->48<=(s[j]'hb).toNat/\(s[j]'hb).toNat<=57)) (λi=>s.size-(zL i).toNat)
    case atStart=>exact⟨0,zR _,rfl,λj _ h=>by omega⟩
    case round=>
     obtain⟨k,hk,rfl,hP⟩:=hrel
     by_cases hlt:k<s.size
     ·by_cases d1:(s[k]'hlt).toNat<48
      ·have e1:(((s[k]'hlt).toNat:Int))<48:=by omega
       have HN:=hid (Q3.out k hlt (.inl d1));clear d1
       go_wp2
       go_ret
       first|exact .inl ⟨rfl,HN.out,rfl⟩|exact⟨false,rfl,⟨λh=>by simp at h,λh=>absurd h HN.out⟩,rfl⟩
      ·by_cases d2:57<(s[k]'hlt).toNat
       ·have e1:(48:Int)<=(s[k]'hlt).toNat:=by omega
        have e2:(57:Int)<(s[k]'hlt).toNat:=by omega
        have HN:=hid (Q3.out k hlt (.inr d2));clear d1 d2
        go_wp2
        go_ret
        first|exact .inl ⟨rfl,HN.out,rfl⟩|exact⟨false,rfl,⟨λh=>by simp at h,λh=>absurd h HN.out⟩,rfl⟩
       ·have e1:(48:Int)<=(s[k]'hlt).toNat:=by omega
        have e2:((s[k]'hlt).toNat:Int)<=57:=by omega
        have hnext:∀j (hb:j<s.size),j<k+1->48<=(s[j]'hb).toNat/\(s[j]'hb).toNat<=57:=λj hb h=>by
         by_cases e:j=k
         ·subst e;omega
         ·exact hP.out j hb (by omega)
        have HN:=hid hnext;clear hnext d1 d2
        go_wp2
        go_round
        case rel=>exact⟨k+1,by omega,by go_num,HN⟩
        case measure=>simp[zL];omega
     ·have hq:=Q4.out h00 (λh=>HN.out h.2) (λj hb=>hP.out j hb (by omega))
      have HQ:=hid hq;clear hq
      go_wp2
      go_ret
      first|exact .inr ⟨rfl,HQ.out,rfl⟩|exact⟨true,rfl,⟨λ_=>HQ.out,λ_=>rfl⟩,rfl⟩
  ·have h1':¬(1:Int)<s.size:=by omega
   go_wp2
   go_loop [3] (λi=>∃k:Nat,k<=s.size/\i=.int .i64 k/\Hid (∀j (hb:j<s.size),j<k->48<=(s[j]'hb).toNat/\(s[j]'hb).toNat<=57)) (λi=>s.size-(zL i).toNat)
   case atStart=>exact⟨0,zR _,rfl,λj _ h=>by omega⟩
   case round=>
    obtain⟨k,hk,rfl,hP⟩:=hrel
    by_cases hlt:k<s.size
    ·by_cases d1:(s[k]'hlt).toNat<48
     ·have e1:(((s[k]'hlt).toNat:Int))<48:=by omega
      have HN:=hid (Q3.out k hlt (.inl d1));clear d1
      go_wp2
      go_ret
      first|exact .inl ⟨rfl,HN.out,rfl⟩|exact⟨false,rfl,⟨λh=>by simp at h,λh=>absurd h HN.out⟩,rfl⟩
     ·by_cases d2:57<(s[k]'hlt).toNat
      ·have e1:(48:Int)<=(s[k]'hlt).toNat:=by omega
       have e2:(57:Int)<(s[k]'hlt).toNat:=by omega
       have HN:=hid (Q3.out k hlt (.inr d2));clear d1 d2
       go_wp2
       go_ret
       first|exact .inl ⟨rfl,HN.out,rfl⟩|exact⟨false,rfl,⟨λh=>by simp at h,λh=>absurd h HN.out⟩,rfl⟩
      ·have e1:(48:Int)<=(s[k]'hlt).toNat:=by omega
       have e2:((s[k]'hlt).toNat:Int)<=57:=by omega
       have hnext:∀j (hb:j<s.size),j<k+1->48<=(s[j]'hb).toNat/\(s[j]'hb).toNat<=57:=λj hb h=>by
        by_cases e:j=k
        ·subst e;omega
        ·exact hP.out j hb (by omega)
       have HN:=hid hnext;clear hnext d1 d2
       go_wp2
       go_round
       case rel=>exact⟨k+1,by omega,by go_num,HN⟩
       case measure=>simp[zL];omega
    ·have hq:=Q4.out h00 (λh=>h1 h.1) (λj hb=>hP.out j hb (by omega))
     have HQ:=hid hq;clear hq
     go_wp2
     go_ret
     first|exact .inr ⟨rfl,HQ.out,rfl⟩|exact⟨true,rfl,⟨λ_=>HQ.out,λ_=>rfl⟩,rfl⟩
theorem znz (l:List UInt8) (hd:∀c∈l,48<=c.toNat/\c.toNat<=57) (hl:l.length<=9) (w:zA):
 zC zF 108 #[St l] w λe w'=>e=.returned (I (val l))/\w'=w:=by
 obtain⟨s,hs⟩:∃s:ByteArray,s=⟨l.toArray⟩:=⟨_,rfl⟩
 obtain⟨b1,b2⟩:=zdd l s hs
 have hvt:=λk hk=>ziu (l:=l) hd (k:=k) hk
 have hst:∀k (hb:k<s.size),48<=(s[k]'hb).toNat/\(s[k]'hb).toNat<=57/\val (l.take (k+1))=10*val (l.take k)+((s[k]'hb).toNat-48):=λk hb=>by
  have hk:k<l.length:=by omega
  rw[b2 k hk hb,List.take_succ_eq_append_getElem hk,zde]
  exact⟨(hd _ (zY hk)).1,(hd _ (zY hk)).2,rfl⟩
 have hfull:val (l.take s.size)=val l:=by rw[b1,List.take_length]
 show zC _ _ #[.string ⟨l.toArray⟩] _ _
 rw[<-hs]
 have hs9:s.size<=9:=by omega
 generalize hvf:(λk=>val (l.take k))=vf at*
 have hvt':∀k,k<=9->vf k<1000000000:=by rw[<-hvf];exact hvt
 have hst':∀k (hb:k<s.size),48<=(s[k]'hb).toNat/\(s[k]'hb).toNat<=57/\vf (k+1)=10*vf k+((s[k]'hb).toNat-48):=by rw[<-hvf];exact hst
 have hfull':vf s.size=val l:=by rw[<-hvf];exact hfull
 have hv0:vf 0=0:=by rw[<-hvf];rfl
 generalize val l=vl at*
 have VT:=hid hvt';have ST:=hid hst';have HF:=hid hfull';have V0:=hid hv0
 clear hvt' hst' hfull' hv0 hvt hst hfull hvf b1 b2 hs hd hl
 go_enter Tryz.func108,Tryz.ntmps108
 go_wp2
 go_loop [3,4] (λa i=>∃k:Nat,k<=s.size/\i=.int .i64 k/\a=.int .i64 (vf k:Nat)) (λ_ i=>s.size-(zL i).toNat)
 case atStart=>exact⟨0,zR _,rfl,by rw[V0.out];rfl⟩
 case round=>
  obtain⟨k,hk,rfl,rfl⟩:=hrel
  by_cases hlt:k<s.size
  ·obtain⟨c1,c2,c3⟩:=ST.out k hlt
   have hv:=VT.out k (by omega)
   generalize vf k=v at*
   have C3:=hid c3;clear c3
   have d1:(48:Int)<=(s[k].toNat:Int):=by omega
   have d2:(s[k].toNat:Int)<=57:=by omega
   go_wp2
   go_round
   case rel=>exact⟨k+1,by omega,by go_num,by rw[C3.out];show Value.int .i64 _=Value.int .i64 _;congr 1;omega⟩
   case measure=>simp[zL];omega
  ·have hk':k=s.size:=by omega
   have HK:=hid hk';clear hk'
   go_wp2
   go_ret
   exact⟨by rw[HK.out,HF.out];rfl,rfl⟩
theorem zmf (l:List UInt8) (k:Nat):((⟨l.toArray⟩:ByteArray).extract 0 k)=⟨(l.take k).toArray⟩:=by
 apply ByteArray.ext
 rw[ByteArray.data_extract]
 simp
theorem zev (l:List UInt8) (k:Nat):((⟨l.toArray⟩:ByteArray).extract k (⟨l.toArray⟩:ByteArray).size)=⟨(l.drop k).toArray⟩:=by
 have:(⟨l.toArray⟩:ByteArray).size=l.length:=by show l.toArray.size=_;simp
 rw[this]
 apply ByteArray.ext
 rw[ByteArray.data_extract]
 simp[List.take_of_length_le]
theorem zmg (b:List UInt8) (k:Nat) (hk:k<b.length) (h1:∀j (hj:j<b.length),j<k->b[j]'hj≠47) (h2:b[k]'hk=47):
 b.takeWhile (· !=47)=b.take k/\(b.dropWhile (· !=47)).tail=b.drop (k+1)/\(47:UInt8)∈b:=by
 have e:b=b.take k++47::b.drop (k+1):=by
  rw[<-h2,List.getElem_cons_drop,List.take_append_drop]
 have hn:(47:UInt8)∉b.take k:=by
  intro h
  obtain⟨j,hj,e⟩:=List.getElem_of_mem h
  rw[List.getElem_take] at e
  simp at hj
  exact h1 j (by omega) (by omega) e
 obtain⟨t1,t2⟩:=zty (b:=b.drop (k+1)) hn
 refine⟨?_,?_,by rw[e];simp⟩
 ·conv=>lhs;rw[e]
  exact t1
 ·conv=>lhs;rw[e]
  rw[t2];rfl
theorem zrt (b:List UInt8) (h1:∀j (hj:j<b.length),b[j]'hj≠47):b.takeWhile (· !=47)=b/\(b.dropWhile (· !=47)).tail=[]/\(47:UInt8)∉b:=by
 have hn:(47:UInt8)∉b:=λh=>by
  obtain⟨j,hj,e⟩:=List.getElem_of_mem h
  exact h1 j hj e
 refine⟨zjy hn,?_,hn⟩
 have:b.dropWhile (· !=47)=[]:=by
  have h2:=List.takeWhile_append_dropWhile (p:=(· !=(47:UInt8))) (l:=b)
  rw[zjy hn] at h2
  exact List.append_right_eq_self.1 h2
 rw[this];rfl
def zeg (m:Bool) (b:List UInt8):Value:=.tuple #[.bool m,St (b.takeWhile (· !=47)),St ((b.dropWhile (· !=47)).tail),.bool (decide ((47:UInt8)∈b))]
theorem zru (b:List UInt8) (hm:b.head? ≠some 45) (hl:b.length<=1000000) (w:zA):
 qJ 105 #[St b] w (zeg false b):=by
 obtain⟨t,ht⟩:∃t:ByteArray,t=⟨b.toArray⟩:=⟨_,rfl⟩
 obtain⟨b1,b2⟩:=zdd b t ht
 have kf:∀k (hk:k<t.size),(t[k]'hk).toNat=47->(∀j (hb:j<t.size),j<k->(t[j]'hb).toNat≠47)->zeg false b=.tuple #[.bool false,.string (t.extract 0 k),.string (t.extract (k+1) t.size),.bool true]:=λk hk h1 h2=>by
  have hk':k<b.length:=by omega
  obtain⟨e1,e2,e3⟩:=zmg b k hk' (λj hj hjk he=>h2 j (by omega) hjk (by rw[b2 j hj (by omega),he];rfl)) (UInt8.toNat_inj.1 (by rw[<-b2 k hk' hk,h1];rfl))
  unfold zeg
  rw[e1,e2,decide_eq_true e3,ht,zmf,zev]
 have kn:(∀j (hb:j<t.size),(t[j]'hb).toNat≠47)->zeg false b=.tuple #[.bool false,.string t,.string ⟨#[]⟩,.bool false]:=λh2=>by
  obtain⟨e1,e2,e3⟩:=zrt b (λj hj he=>h2 j (by omega) (by rw[b2 j hj (by omega),he];rfl))
  unfold zeg
  rw[e1,e2,decide_eq_false e3,ht]
 have KF:=hid kf;have KN:=hid kn
 clear kf kn
 have h0:t.size=0\/0<t.size/\∀hb:0<t.size,(((t[0]'hb).toNat:Int)==45)=false:=by
  by_cases h:t.size=0
  ·exact .inl h
  ·refine .inr ⟨by omega,λhb=>?_⟩
   rw[beq_eq_false_iff_ne]
   intro h'
   have hb0:0<b.length:=by omega
   refine hm ?_
   rw[List.head?_eq_getElem?,yB hb0]
   congr 1
   rw[b2 0 hb0 hb] at h'
   exact UInt8.toNat_inj.1 (by have:(45:UInt8).toNat=45:=rfl;omega)
 have hsz:t.size<=1000000:=by omega
 show zC _ _ #[.string ⟨b.toArray⟩] _ _
 rw[<-ht]
 clear b1 b2 ht hl hm
 generalize zeg false b=v at*
 go_enter Tryz.func105,Tryz.ntmps105
 rcases h0 with h0|⟨h0,h1⟩
 ·have h0':¬(0:Int)<t.size:=by omega
  have h9:=KN.out λj hb=>by omega
  have HN:=hid h9;clear h9
  go_wp2
  refine wp_loop_rounds 1 ?_
  rw[rounds_succ]
  go_wp2
  refine bodyPost_ret (v:=.tuple #[.bool false,.string t,.string ⟨#[]⟩,.bool false]) (by simp[results,Tryz.results105,go_sem]) rfl ⟨by rw[HN.out],zM _ _⟩
 ·have h1':=h1 h0
  have h0':(0:Int)<t.size:=by omega
  clear h1
  go_wp2
  go_loop [8] (λi=>∃k:Nat,k<=t.size/\i=.int .i64 k/\Hid (∀j (hb:j<t.size),j<k->(t[j]'hb).toNat≠47)) (λi=>t.size-(zL i).toNat)
  case atStart=>exact⟨0,zR _,rfl,λj _ h=>by omega⟩
  case round=>
   clear h1'
   obtain⟨k,hk,rfl,hP⟩:=hrel
   by_cases hlt:k<t.size
   ·by_cases d1:(t[k]'hlt).toNat=47
    ·have e1:(((t[k]'hlt).toNat:Int)==47)=true:=by rw[d1];rfl
     have h9:=KF.out k hlt d1 hP.out
     have HN:=hid h9;clear d1 h9
     have hki:(k:Int)<=t.size:=by omega
     have hki1:(k:Int)+1<=t.size:=by omega
     have hk0:(0:Int)<=(k:Int)+1:=by omega
     have hwk:IntKind.i64.wrap ((k:Int)+1)=(k:Int)+1:=zI _ ⟨by omega,by omega⟩
     go_wp2
     (refine wp_region_quiet_lit (by kernel_rfl) (by kernel_rfl) (WQ.out ?_);(repeat(first|(apply WQ.read (by rfl);(focus(rintro W ⟨n,rfl⟩;go_simp;try with_reducible rfl));try simp only[zzQ])|(apply WQ.skip (by rfl);try simp only[zzQ])));refine WQ.nil ?_;rintro _ ⟨nq,rfl⟩)
     go_wp2
     refine bodyPost_ret (v:=.tuple #[.bool false,.string (t.extract 0 k),.string (t.extract (k+1) t.size),.bool true]) (by simp[results,Tryz.results105,go_sem]) rfl ⟨by rw[HN.out],zao (zM _ _) _⟩
    ·have e1:(((t[k]'hlt).toNat:Int)==47)=false:=by rw[beq_eq_false_iff_ne];omega
     have hnext:∀j (hb:j<t.size),j<k+1->(t[j]'hb).toNat≠47:=λj hb h=>by
      by_cases e:j=k
      ·subst e;exact d1
      ·exact hP.out j hb (by omega)
     have HN:=hid hnext;clear hnext d1
     go_wp2
     go_round
     case rel=>exact⟨k+1,by omega,by go_num,HN⟩
     case measure=>simp[zL];omega
   ·have h9:=KN.out λj hb=>hP.out j hb (by omega)
    have HN:=hid h9;clear h9
    go_wp2
    refine bodyPost_ret (v:=.tuple #[.bool false,.string t,.string ⟨#[]⟩,.bool false]) (by simp[results,Tryz.results105,go_sem]) rfl ⟨by rw[HN.out],zM _ _⟩
theorem zrv (b:List UInt8) (hl:b.length<=1000000) (w:zA):
 qJ 105 #[St (45::b)] w (zeg true b):=by
 obtain⟨t,ht⟩:∃t:ByteArray,t=⟨b.toArray⟩:=⟨_,rfl⟩
 obtain⟨b1,b2⟩:=zdd b t ht
 have kf:∀k (hk:k<t.size),(t[k]'hk).toNat=47->(∀j (hb:j<t.size),j<k->(t[j]'hb).toNat≠47)->zeg true b=.tuple #[.bool true,.string (t.extract 0 k),.string (t.extract (k+1) t.size),.bool true]:=λk hk h1 h2=>by
  have hk':k<b.length:=by omega
  obtain⟨e1,e2,e3⟩:=zmg b k hk' (λj hj hjk he=>h2 j (by omega) hjk (by rw[b2 j hj (by omega),he];rfl)) (UInt8.toNat_inj.1 (by rw[<-b2 k hk' hk,h1];rfl))
  unfold zeg
  rw[e1,e2,decide_eq_true e3,ht,zmf,zev]
 have kn:(∀j (hb:j<t.size),(t[j]'hb).toNat≠47)->zeg true b=.tuple #[.bool true,.string t,.string ⟨#[]⟩,.bool false]:=λh2=>by
  obtain⟨e1,e2,e3⟩:=zrt b (λj hj he=>h2 j (by omega) (by rw[b2 j hj (by omega),he];rfl))
  unfold zeg
  rw[e1,e2,decide_eq_false e3,ht]
 have KF:=hid kf;have KN:=hid kn
 clear kf kn
 obtain⟨s,hs⟩:∃s:ByteArray,s=⟨((45:UInt8)::b).toArray⟩:=⟨_,rfl⟩
 obtain⟨s1,s2,s3,s4,s5⟩:=zgu b s hs
 have h45:=s4 s2
 have hsl:(1:Int)<=s.size:=by omega
 have hs0:(0:Int)<s.size:=by omega
 rw[<-ht] at s5
 have hsz:t.size<=1000000:=by omega
 show zC _ _ #[.string ⟨((45:UInt8)::b).toArray⟩] _ _
 rw[<-hs]
 clear b1 b2 ht hl s1 s3 s4 hs
 generalize zeg true b=v at*
 go_enter Tryz.func105,Tryz.ntmps105
 go_wp2
 go_loop [8] (λi=>∃k:Nat,k<=t.size/\i=.int .i64 k/\Hid (∀j (hb:j<t.size),j<k->(t[j]'hb).toNat≠47)) (λi=>t.size-(zL i).toNat)
 case atStart=>exact⟨0,zR _,rfl,λj _ h=>by omega⟩
 case round=>
  clear h45 hsl hs0 s5
  obtain⟨k,hk,rfl,hP⟩:=hrel
  by_cases hlt:k<t.size
  ·by_cases d1:(t[k]'hlt).toNat=47
   ·have e1:(((t[k]'hlt).toNat:Int)==47)=true:=by rw[d1];rfl
    have h9:=KF.out k hlt d1 hP.out
    have HN:=hid h9;clear d1 h9
    have hki:(k:Int)<=t.size:=by omega
    have hki1:(k:Int)+1<=t.size:=by omega
    have hk0:(0:Int)<=(k:Int)+1:=by omega
    have hwk:IntKind.i64.wrap ((k:Int)+1)=(k:Int)+1:=zI _ ⟨by omega,by omega⟩
    go_wp2
    (refine wp_region_quiet_lit (by kernel_rfl) (by kernel_rfl) (WQ.out ?_);(repeat(first|(apply WQ.read (by rfl);(focus(rintro W ⟨n,rfl⟩;go_simp;try with_reducible rfl));try simp only[zzQ])|(apply WQ.skip (by rfl);try simp only[zzQ])));refine WQ.nil ?_;rintro _ ⟨nq,rfl⟩)
    go_wp2
    refine bodyPost_ret (v:=.tuple #[.bool true,.string (t.extract 0 k),.string (t.extract (k+1) t.size),.bool true]) (by simp[results,Tryz.results105,go_sem]) rfl ⟨by rw[HN.out],zao (zM _ _) _⟩
   ·have e1:(((t[k]'hlt).toNat:Int)==47)=false:=by rw[beq_eq_false_iff_ne];omega
    have hnext:∀j (hb:j<t.size),j<k+1->(t[j]'hb).toNat≠47:=λj hb h=>by
     by_cases e:j=k
     ·subst e;exact d1
     ·exact hP.out j hb (by omega)
    have HN:=hid hnext;clear hnext d1
    go_wp2
    go_round
    case rel=>exact⟨k+1,by omega,by go_num,HN⟩
    case measure=>simp[zL];omega
  ·have h9:=KN.out λj hb=>hP.out j hb (by omega)
   have HN:=hid h9;clear h9
   go_wp2
   refine bodyPost_ret (v:=.tuple #[.bool true,.string t,.string ⟨#[]⟩,.bool false]) (by simp[results,Tryz.results105,go_sem]) rfl ⟨by rw[HN.out],zM _ _⟩
theorem zn0 (l:List UInt8) (hl:l.length<=1000000) (w:zA):
 qJ 105 #[St l] w (.tuple #[.bool (decide (l.head? =some 45)),St (upS l),St (dnS l),.bool (decide ((47:UInt8)∈bare l))]):=by
 rcases zhb l with⟨h1,h2⟩|⟨h1,h2⟩
 ·rw[decide_eq_true h1]
  have:=zrv (bare l) (by have:=congrArg List.length h2;simp at this;omega) w
  rw[<-h2] at this
  exact this
 ·rw[decide_eq_false h1]
  have:=zru (bare l) (by rw[<-h2];exact h1) (by rw[<-h2];exact hl) w
  rw[<-h2] at this
  unfold upS dnS
  rw[<-h2]
  exact this
theorem ziz (n:Nat) (hl:(zD n).length<=300) (w:zA):
 zC zF 197 #[St (zD n)] w λe w'=>e=.returned (.int .i64 0)/\w'=w:=by
 obtain⟨s,hs⟩:∃s:ByteArray,s=⟨(zD n++[]).toArray⟩:=⟨_,rfl⟩
 obtain⟨b1,b2, -⟩:=zii (zd7 n) s hs
 have hzero:(zD n).length<=1\/∀hb:0<s.size,(s[0]'hb).toNat≠48:=zjz n [] s hs
 have hb2:∀k (hb:k<s.size),48<=(s[k]'hb).toNat/\(s[k]'hb).toNat<=57:=λk hb=>⟨(b2 k (by simp at b1;omega) hb).1,(b2 k (by simp at b1;omega) hb).2.1⟩
 have hpos:1<=(zD n).length:=by have:=zbn (n:Int);unfold digs at this;simpa using this
 rw[List.append_nil] at hs
 have hlen:(zD n).length=s.size:=by rw[b1];simp
 show zC _ _ #[.string ⟨(zD n).toArray⟩] _ _
 rw[hlen] at hl hzero hpos
 rw[<-hs]
 have B2:=hid hb2
 clear b1 b2 hb2 hs hlen
 have h0:0<s.size:=by omega
 have h0':(0:Int)<s.size:=by omega
 have hz:((0:Int)==s.size)=false:=by rw[beq_eq_false_iff_ne];omega
 have h45:(((s[0]'h0).toNat:Int)==45)=false:=by rw[beq_eq_false_iff_ne];have:=(B2.out 0 h0).1;omega
 have hf:(((s[0]'h0).toNat:Int)==48)=true/\¬(1:Int)<s.size\/(((s[0]'h0).toNat:Int)==48)=false:=by
  by_cases h:(s[0]'h0).toNat=48
  ·left
   refine⟨by rw[h];rfl,?_⟩
   rcases hzero with h1|h1
   ·omega
   ·exact absurd h (h1 h0)
  ·right;rw[beq_eq_false_iff_ne];omega
 have hwl:IntKind.i64.wrap ((s.size:Int)-0)=(s.size:Int):=by rw[Int.sub_zero];exact zI _ ⟨by omega,by omega⟩
 have hwl2:IntKind.i64.wrap (s.size:Int)=(s.size:Int):=zI _ ⟨by omega,by omega⟩
 have h300:¬(300:Int)<s.size:=by omega
 clear hzero
 go_enter Tryz.func197,Tryz.ntmps197
 rcases hf with⟨f1,f2⟩|f1
 all_goals (
 go_wp2
 go_loop [4] (λi=>∃k:Nat,k<=s.size/\i=.int .i64 k) (λi=>s.size-(zL i).toNat)
 case atStart=>exact⟨0,zR _,rfl⟩
 case round=>
  obtain⟨k,hk,rfl⟩:=hrel
  by_cases hlt:k<s.size
  ·obtain⟨c1,c2⟩:=B2.out k hlt
   have d1:(48:Int)<=(s[k].toNat:Int):=by omega
   have d2:(s[k].toNat:Int)<=57:=by omega
   go_wp2
   go_round
   case rel=>exact⟨k+1,by omega,by go_num⟩
   case measure=>simp[zL];omega
  ·go_wp2
   go_ret
   first|exact⟨rfl,rfl⟩|exact rfl|trivial)
theorem zva (m n:Nat) (hm:(zD m).length<=300) (hn:(zD n).length<=300) (w:zA):
 zC zF 158 #[St (zD m),St (zD n)] w λe w'=>e=.returned (.int .i64 0)/\w'=w:=by
 have c1:=ziz m hm w;have c2:=ziz n hn w
 generalize zD m=x at*
 generalize zD n=y at*
 have C1:=hid c1;have C2:=hid c2
 clear c1 c2 hm hn
 go_enter Tryz.func158,Tryz.ntmps158
 go_wp2_with fail
 refine C1.out.mono ?_
 rintro e w' ⟨rfl,rfl⟩
 go_wp2_with fail
 refine C2.out.mono ?_
 rintro e w'' ⟨rfl,rfl⟩
 go_wp2_with fail
 go_ret
 exact⟨rfl,rfl⟩
theorem zg3 {l:List UInt8} (h:∀c∈l,48<=c.toNat/\c.toNat<=57) {k:Nat} (hk:k<=17):val (l.take k)<100000000000000000:=by
 have h1:=zjc (l.take k) (λc hc=>h c (List.mem_of_mem_take hc))
 have h2:(10:Nat)^(l.take k).length<=10^17:=Nat.pow_le_pow_right (by omega) (by simp;omega)
 exact Nat.lt_of_lt_of_le h1 h2
theorem zi0 (n:Nat) (hl:(zD n).length<=17) (w:zA):
 zC zF 198 #[St (zD n)] w λe w'=>e=.returned (.tuple #[I n,.bool true])/\w'=w:=by
 obtain⟨l,hll⟩:∃l,l=zD n:=⟨_,rfl⟩
 have hd:=zan n
 have hvn:=zb2 n
 have hpos:1<=(zD n).length:=by have:=zbn (n:Int);unfold digs at this;simpa using this
 rw[<-hll] at hd hvn hl hpos⊢
 obtain⟨s,hs⟩:∃s:ByteArray,s=⟨l.toArray⟩:=⟨_,rfl⟩
 obtain⟨b1,b2⟩:=zdd l s hs
 have hvt:=λk hk=>zg3 (l:=l) hd (k:=k) hk
 have hst:∀k (hb:k<s.size),48<=(s[k]'hb).toNat/\(s[k]'hb).toNat<=57/\val (l.take (k+1))=10*val (l.take k)+((s[k]'hb).toNat-48):=λk hb=>by
  have hk:k<l.length:=by omega
  rw[b2 k hk hb,List.take_succ_eq_append_getElem hk,zde]
  exact⟨(hd _ (zY hk)).1,(hd _ (zY hk)).2,rfl⟩
 have hfull:val (l.take s.size)=n:=by rw[b1,List.take_length];exact hvn
 show zC _ _ #[.string ⟨l.toArray⟩] _ _
 rw[<-hs]
 have hs17:s.size<=17:=by omega
 have hs0:0<s.size:=by omega
 generalize hvf:(λk=>val (l.take k))=vf at*
 have hvt':∀k,k<=17->vf k<100000000000000000:=by rw[<-hvf];exact hvt
 have hst':∀k (hb:k<s.size),48<=(s[k]'hb).toNat/\(s[k]'hb).toNat<=57/\vf (k+1)=10*vf k+((s[k]'hb).toNat-48):=by rw[<-hvf];exact hst
 have hfull':vf s.size=n:=by rw[<-hvf];exact hfull
 have hv0:vf 0=0:=by rw[<-hvf];rfl
 have VT:=hid hvt';have ST:=hid hst';have HF:=hid hfull';have V0:=hid hv0
 have h45:(((s[0]'hs0).toNat:Int)==45)=false:=by rw[beq_eq_false_iff_ne];have:=(hst' 0 hs0).1;omega
 clear hvt' hst' hfull' hv0 hvt hst hfull hvf b1 b2 hs hd hl hll hvn hpos
 go_enter Tryz.func198,Tryz.ntmps198
 go_wp2
 go_loop [4,5] (λa i=>∃k:Nat,k<=s.size/\i=.int .i64 k/\a=.int .i64 (vf k:Nat)) (λ_ i=>s.size-(zL i).toNat)
 case atStart=>exact⟨0,zR _,rfl,by rw[V0.out];rfl⟩
 case round=>
  obtain⟨k,hk,rfl,rfl⟩:=hrel
  by_cases hlt:k<s.size
  ·obtain⟨c1,c2,c3⟩:=ST.out k hlt
   have hv:=VT.out k (by omega)
   generalize vf k=v at*
   have C3:=hid c3;clear c3
   have d1:(48:Int)<=(s[k].toNat:Int):=by omega
   have d2:(s[k].toNat:Int)<=57:=by omega
   have d3:((s[k].toNat:Int) !=45)=true:=by simp;omega
   go_wp2
   go_round
   case rel=>exact⟨k+1,by omega,by go_num,by rw[C3.out];show Value.int .i64 _=Value.int .i64 _;congr 1;omega⟩
   case measure=>simp[zL];omega
  ·have hk':k=s.size:=by omega
   have HK:=hid hk';clear hk'
   go_wp2
   go_ret2
   exact⟨by rw[HK.out,HF.out];rfl,rfl⟩
theorem zxd (m n:Nat) (hm:(zD m).length<=17) (hn:(zD n).length<=17) (w:zA):
 zC zF 159 #[St (zD m),St (zD n)] w λe w'=>e=.returned (.tuple #[I m,I n,.bool true])/\w'=w:=by
 have c1:=zi0 m hm w;have c2:=zi0 n hn w
 generalize zD m=x at*
 generalize zD n=y at*
 have C1:=hid c1;have C2:=hid c2
 clear c1 c2 hm hn
 go_enter Tryz.func159,Tryz.ntmps159
 go_wp2_with fail
 refine C1.out.mono ?_
 rintro e w' ⟨rfl,rfl⟩
 go_wp2_with fail
 refine C2.out.mono ?_
 rintro e w'' ⟨rfl,rfl⟩
 go_wp2_with fail
 go_ret3
 exact⟨rfl,rfl⟩
end
end Go.Proofs.YthfpmfdiamldoaaGreatDoor
