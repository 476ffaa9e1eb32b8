/- kingpostref01.read. -/
import Derived.Test.YthfpmfdiamldoaaGreatDoorG18
set_option maxRecDepth 100000
set_option maxHeartbeats 8000000
open Go renaming World → zA
open Go.Lib renaming decDigits → zD, itoa → zE
open Go.World renaming size_alloc → zH
open Go.IntWalk renaming i64_in → zI
open Go.RowKit renaming intOf → zL
open Go.RowKit.Below renaming refl → zM
open Nat renaming le_refl → zN, le_trans → zO, mod_lt → zP, mod_eq_of_lt → zQ, lt_of_lt_of_le → zS, pow_le_pow_right → yF, pow_succ → yO, mul_comm → yP, pos_of_ne_zero → yS
open Int renaming natAbs_mul → yK
namespace Go.Proofs.YthfpmfdiamldoaaGreatDoor
open Go.RowKit Go.Shelf Lib Str Limb
attribute [local go_sem] Oper.semAt_some
theorem zvh (a:List UInt8):∀b:List UInt8,val (a++b)=val a*10^b.length+val b:=by
 intro b
 induction h:b.length generalizing b with
 |zero=>have:b=[]:=List.length_eq_zero_iff.1 h;subst this;simp[val]
 |succ k ih=>
  rcases Limb.snoc_cases b with rfl|⟨i,x,rfl⟩
  ·simp at h
  ·have hi:i.length=k:=by simpa using h
   rw[<-List.append_assoc,zde,ih i hi,zde,yO]
   rw[Nat.mul_add]
   have:10*(val a*10^k)=val a*(10^k*10):=by rw[Nat.mul_left_comm,yP 10]
   omega
def zc0 (n k:Nat):List Nat:=(List.range k).map λi=>n/B6^i%B6
theorem zmj (n k:Nat):zc0 n (k+1)=zc0 n k++[n/B6^k%B6]:=by simp[zc0,List.range_succ]
theorem zj6 (n k:Nat):(zc0 n k).length=k:=by simp[zc0]
theorem zr0 (n k:Nat):zal B6 (zc0 n k):=λx hx=>by
 obtain⟨i,_,rfl⟩:=List.mem_map.1 hx
 exact zP _ (by decide)
theorem zn1 (n:Nat):∀k,valL B6 (zc0 n k)=n%B6^k
 |0=>by simp[zc0,valL,Nat.mod_one]
 |k+1=>by
  rw[zmj,zcm,zn1 n k,zj6,yO,Nat.mod_mul]
theorem zmk {n k:Nat} (h:n<B6^k):zat (zc0 n k)=zaa B6 n:=by
 rw[zbu (B:=B6) (by decide) (zr0 n k),zn1,zQ h]
theorem zr1 (n e:Nat) (_:e<=(zD n).length):val ((zD n).take e)=n/10^((zD n).length-e):=by
 have h1:=zvh ((zD n).take e) ((zD n).drop e)
 rw[List.take_append_drop,zb2,List.length_drop] at h1
 have h2:=zjc ((zD n).drop e) (λc hc=>⟨(zan n c (List.mem_of_mem_drop hc)).1,(zan n c (List.mem_of_mem_drop hc)).2⟩)
 rw[List.length_drop] at h2
 generalize (zD n).length-e=k at*
 have hp:0<10^k:=Nat.pow_pos (by omega)
 conv=>rhs;rw[h1]
 rw[yP,Nat.mul_add_div hp,Nat.div_eq_of_lt h2,Nat.add_zero]
theorem zxm (n k x:Nat) (hk:6*k<(zD n).length) (h:val ((zD n).take ((zD n).length-6*k))=val ((zD n).take ((zD n).length-6*k-6))*10^((zD n).length-6*k-((zD n).length-6*k-6))+x)
 (hx:x<10^((zD n).length-6*k-((zD n).length-6*k-6))):x=n/B6^k%B6:=by
 have e1:=zr1 n ((zD n).length-6*k) (by omega)
 rw[show(zD n).length-((zD n).length-6*k)=6*k by omega,Nat.pow_mul] at e1
 have e2:n/B6^k=val ((zD n).take ((zD n).length-6*k)):=e1.symm
 rw[e2]
 rcases Nat.lt_or_ge ((zD n).length-6*k) 6 with h6|h6
 ·have h0:(zD n).length-6*k-6=0:=by omega
  rw[h0] at h hx
  rw[List.take_zero,z02,Nat.zero_mul,Nat.zero_add] at h
  have:10^((zD n).length-6*k-0)<=10^6:=yF (by omega) (by omega)
  rw[h]
  exact(zQ (show x<B6 from zS hx this)).symm
 ·rw[show(zD n).length-6*k-((zD n).length-6*k-6)=6 by omega] at h hx
  rw[h,yP]
  show x=(B6*_+x)%B6
  rw[Nat.mul_add_mod]
  exact(zQ (show x<B6 from hx)).symm
theorem zxn (n k:Nat) (h:(zD n).length<=6*k):n<B6^k:=by
 have h1:n<10^(zD n).length:=by
  have:=zjc (zD n) (λc hc=>zan n c hc)
  rwa [zb2] at this
 have h2:10^(zD n).length<=10^(6*k):=yF (by omega) h
 rw[Nat.pow_mul] at h2
 exact zS h1 h2
structure ReadS (w:zA) (neg:Bool) (n k:Nat) (v:Value) (W:zA):Prop where
 bel:qL w W
 rb:W.heap[w.heap.size]? =some (.cells #[.bool false,.slice none 0 0] 191 (0,0))
 xb:W.heap[w.heap.size+1]? =some (.cells #[.bool neg,v] 191 (0,0))
 own:W.ownsRow (w.heap.size+2) 3 1 v k ((zc0 n k).map I)
theorem ReadS.c1 {w:zA} {neg:Bool} {n k:Nat} {v:Value} {W:zA} (h:ReadS w neg n k v W):W.cell? ⟨w.heap.size+1,1,none⟩=some v/\W.frozen? ⟨w.heap.size+1,1,none⟩=false/\W.cell? ⟨w.heap.size+1,0,none⟩=some (.bool neg):=by
 refine⟨?_,?_,?_⟩<;>simp[World.cell?,World.frozen?,h.xb]
theorem ReadS.r {w:zA} {neg:Bool} {n k:Nat} {v:Value} {W:zA} (h:ReadS w neg n k v W):W.cell? ⟨w.heap.size,0,none⟩=some (.bool false)/\W.frozen? ⟨w.heap.size,0,none⟩=false/\W.cell? ⟨w.heap.size,1,none⟩=some (.slice none 0 0)/\W.frozen? ⟨w.heap.size,1,none⟩=false:=by
 refine⟨?_,?_,?_,?_⟩<;>simp[World.cell?,World.frozen?,h.rb]
theorem ReadS.step {w:zA} {neg:Bool} {n k:Nat} {v v':Value} {W W':zA} (h:ReadS w neg n k v W) (x:Nat) (hx:x=n/B6^k%B6)
 (hown:W'.ownsRow (w.heap.size+2) 3 1 v' (k+1) ((zc0 n k).map I++[.int .i64 x])) (hb:Below (w.heap.size+2) W W'):
 ReadS w neg n (k+1) v' (W'.setCell ⟨w.heap.size+1,1,none⟩ v'):=by
 refine⟨(h.bel.trans (hb.mono (by omega))).setCell (by show w.heap.size<=w.heap.size+1;omega) _,?_,?_,?_⟩
 ·exact(Below.heap_setCell _ ⟨w.heap.size+1,1,none⟩ _ w.heap.size (by show w.heap.size≠w.heap.size+1;omega)).trans ((hb.block _ (by omega)).trans h.rb)
 ·have:=(hb.block (w.heap.size+1) (by omega)).trans h.xb
  simp[World.setCell,Array.getElem?_modify,this]
 ·have:=zmh (p:=⟨w.heap.size+1,1,none⟩) hown (by show w.heap.size+1<w.heap.size+2;omega) v'
  rw[zmj,<-hx,List.map_append]
  exact this
theorem zcp (z:Int) (w:zA) (hl:digs z<=700):
 Calls Tryz.prog 160 #[St (zE z)] w λe w'=>∃v,e=.returned (.agg #[.bool (decide (z<0)),v])/\Sl w' v ((zaa B6 z.natAbs).map I)/\Below w.heap.size w w':=by
 obtain⟨i0,hi,hz0,hz1,hz2⟩:=info_parts zdv
 obtain⟨n,hn⟩:∃n,n=z.natAbs:=⟨_,rfl⟩
 have hl2:(zD n).length<=700:=by rw[hn];exact hl
 have hd:=zan n
 have hpos:1<=(zD n).length:=by have:=zbn (n:Int);unfold digs at this;simpa using this
 have CV:=hid (zxm n)
 have CE:=hid (zxn n)
 obtain⟨l,hll⟩:∃l,l=zD n:=⟨_,rfl⟩
 rw[<-hll] at hd hl2 hpos CV CE
 obtain⟨s,hs⟩:∃s:ByteArray,s=⟨l.toArray⟩:=⟨_,rfl⟩
 obtain⟨b1,b2⟩:=zdd l s hs
 have hst:∀k (hb:k<s.size),48<=(s[k]'hb).toNat/\(s[k]'hb).toNat<=57/\val (l.take (k+1))=10*val (l.take k)+((s[k]'hb).toNat-48):=λk hb=>by
  have hk:k<l.length:=by omega
  rw[b2 k hk hb,List.take_succ_eq_append_getElem hk,zde]
  exact⟨(hd _ (List.getElem_mem hk)).1,(hd _ (List.getElem_mem hk)).2,rfl⟩
 rw[<-b1] at CV CE
 generalize hvf:(λk=>val (l.take k))=vf at*
 have ST:=hid (show ∀k (hb:k<s.size),48<=(s[k]'hb).toNat/\(s[k]'hb).toNat<=57/\vf (k+1)=10*vf k+((s[k]'hb).toNat-48) by rw[<-hvf];exact hst)
 have CV2:=hid (show ∀k x,6*k<s.size->vf (s.size-6*k)=vf (s.size-6*k-6)*10^(s.size-6*k-(s.size-6*k-6))+x->x<10^(s.size-6*k-(s.size-6*k-6))->x=n/B6^k%B6 by rw[<-hvf];exact CV.out)
 have hs0:0<s.size:=by omega
 have hs7:s.size<=700:=by omega
 clear hst hvf CV
 have hhead:(0<=z/\zE z=l)\/(z<0/\zE z=45::l):=by
  rcases zbg z with⟨h,e⟩|⟨h,e⟩
  ·exact .inl ⟨h,by rw[e,hll,hn]⟩
  ·exact .inr ⟨h,by rw[e,hll,hn]⟩
 rcases hhead with⟨hzn,he⟩|⟨hzn,he⟩
 ·have hdec:decide (z<0)=false:=by rw[decide_eq_false_iff_not];omega
  rw[he,hdec,<-hn]
  show Calls _ _ #[.string ⟨l.toArray⟩] _ _
  rw[<-hs]
  have h45:(((s[0]'hs0).toNat:Int)==45)=false:=by rw[beq_eq_false_iff_ne];have:=(ST.out 0 hs0).1;omega
  have hI:ReadS w false n 0 (.slice none 0 0) ((w.alloc (.cells #[.bool false,.slice none 0 0] 191)).alloc (.cells #[.bool false,.slice none 0 0] 191)):=by
   refine⟨((zM _ w).alloc (zN _) _).alloc (by simp) _,?_,?_,?_⟩
   ·exact(Below.heap_alloc _ _ _ (by simp)).trans (heap_alloc_new w _)
   ·have:=heap_alloc_new (w.alloc (.cells #[.bool false,.slice none 0 0] 191)) (.cells #[.bool false,.slice none 0 0] 191)
    rwa [zH] at this
   ·exact World.ownsRow_nil _ _ _ _
  have HI:=hid hI
  clear hI b1 b2 hs hll hd hpos hl2 he hl hn hzn hdec
  go_enter Tryz.func160,Tryz.ntmps160
  go_wp2
  go_loopw [4] (λi wr=>∃(k:Nat) (v:Value),i=.int .i64 ((s.size:Int)-6*k)/\6*k<s.size+6/\ReadS w false n k v wr) (λi _=>(zL i+6).toNat)
  case atStart=>exact⟨0,_,by simp,by omega,HI.out⟩
  case round=>
   clear HI h45
   obtain⟨k,v,rfl,hk,hS⟩:=hrel
   obtain⟨c1,f1, -⟩:=hS.c1
   by_cases hlt:6*k<s.size
   ·obtain⟨e,he⟩:∃e,e=s.size-6*k:=⟨_,rfl⟩
    obtain⟨f,hf⟩:∃f,f=e-6:=⟨_,rfl⟩
    have hE:(s.size:Int)-6*k=(e:Int):=by omega
    rw[hE]
    have hm:max (0:Int) ((e:Int)-6)=(f:Int):=by omega
    have hef:e-f<=6:=by omega
    have hfe:f<=e:=by omega
    have hes:e<=s.size:=by omega
    have he0:0<e:=by omega
    have CVk:=CV2.out k
    rw[<-he,<-hf] at CVk
    have HCV:=hid CVk
    have HE:=hid hE
    have HS:=hid hS
    clear hE CVk hS hf c1 f1 he
    go_wp2
    go_loopw [5,6] (λa i wr'=>wr'=wr/\∃j x:Nat,f<=j/\j<=e/\i=.int .i64 j/\a=.int .i64 x/\vf j=vf f*10^(j-f)+x/\x<10^(j-f)) (λ_ i _=>e-(zL i).toNat)
    case atStart=>exact⟨rfl,f,0,zN _,hfe,rfl,rfl,by simp,by simp⟩
    case round=>
     obtain⟨hw',j,x,hj1,hj2,rfl,rfl,hv,hx⟩:=hrel
     subst hw'
     have hx6:x<1000000:=zS hx (yF (by omega) (by omega):10^(j-f)<=10^6)
     by_cases hje:j<e
     ·have hjs:j<s.size:=by omega
      obtain⟨d1',d2',d3⟩:=ST.out j hjs
      have HV:=hid (show vf (j+1)=vf f*10^(j+1-f)+(10*x+((s[j]'hjs).toNat-48))/\10*x+((s[j]'hjs).toNat-48)<10^(j+1-f) by
       rw[show j+1-f=(j-f)+1 by omega,yO,d3,hv]
       constructor
       ·rw[Nat.mul_add,<-Nat.mul_assoc,yP 10,Nat.mul_assoc,yP 10];omega
       ·omega)
      have d1:(48:Int)<=((s[j]'hjs).toNat:Int):=by omega
      have d2:((s[j]'hjs).toNat:Int)<=57:=by omega
      clear hv hx d3
      go_wp2
      go_roundw
      case rel=>exact⟨by first|rfl|trivial,j+1,10*x+((s[j]'hjs).toNat-48),by omega,by omega,by go_num,by show Value.int .i64 _=Value.int .i64 _;congr 1;omega,HV.out.1,HV.out.2⟩
      case measure=>simp[zL];omega
     ·obtain rfl:j=e:=by omega
      have hxc:=HCV.out x hlt hv hx
      have HX:=hid hxc
      obtain⟨c1,f1, -⟩:=HS.out.c1
      have hsz:w.heap.size+2<=wr.heap.size:=by
       have h1:=(Array.getElem?_eq_some_iff.1 HS.out.xb).1
       omega
      clear hv hx hxc
      go_wp2_with (at_builtin;refine wpList_append_own _ rfl _ _ 107 rfl (w.heap.size+2) 3 i0 (.int .i64 0) 1 8 Tryz.underlying107 hi hz0 hz1 hz2 rfl (by decide) _ _ _ rfl (HS.out.own.alloc _) ⟨wr.heap.size,0,none⟩ 1 1 [.int .i64 (x:Int)] rfl rfl (zep _ _ _) (zfn _) (by unfold maxLen;omega) (by omega) (by simp;omega) ?_)
      intro v' w1 hown' hgrow _
      obtain⟨vp',vm',vc',rfl⟩:=zg0 hown'
      have hb1:Below (w.heap.size+2) wr w1:=((zM (w.heap.size+2) wr).alloc hsz _).grown hgrow (by simp;omega) (λq e=>(HS.out.own.lt q e).1)
      have hxb:=(hb1.block (w.heap.size+1) (by omega)).trans HS.out.xb
      have k1:w1.cell? ⟨w.heap.size+1,1,none⟩=some v:=by simp[World.cell?,hxb]
      have k2:w1.frozen? ⟨w.heap.size+1,1,none⟩=false:=by simp[World.frozen?,hxb]
      have HN:=hid (HS.out.step x HX.out hown' hb1)
      clear hgrow hown' hb1 hxb c1 f1 hsz
      go_wp2
      go_roundw
      case rel=>exact⟨k+1,_,by have:=HE.out;show Value.int .i64 _=Value.int .i64 _;congr 1;omega,by omega,HN.out⟩
      case measure=>simp[zL];omega
   ·have hle:¬(0:Int)<(s.size:Int)-6*k:=by omega
    have hch:=CE.out k (by omega)
    obtain⟨vp,vm,vc,rfl⟩:=zg0 hS.own
    have hlen:=zj6 n k
    have hk2:k<=200:=by omega
    have hrr:=hS.r
    obtain⟨r0,fr0,r1,fr1⟩:=hrr
    obtain⟨-, -,c0⟩:=hS.c1
    have T:=hid (zeb vp vm vc (zc0 n k) wr (Sl.of_own hS.own) (by rw[hlen];omega))
    have hst:Sl wr (.slice vp (zat (zc0 n k)).length vc) ((zat (zc0 n k)).map I):=Sl.of_own (zh4 hS.own hlen)
    rw[zmk hch] at T hst
    have HST:=hid hst
    have HB:=hid hS.bel
    have hne:w.heap.size≠w.heap.size+1:=by omega
    have hne2:w.heap.size+1≠w.heap.size:=by omega
    clear hS hst hch hlen hlt hk hk2
    go_wp2_with fail
    refine T.out.mono ?_
    rintro e w9 ⟨rfl,hw9⟩
    have hw9':=hw9.symm;subst hw9'
    clear T hw9
    generalize hLL:(zaa B6 n).length=LL at*
    have d0:=(zau _ (b:=w.heap.size) (b':=w.heap.size+1) 0 1 (.slice vp LL vc) hne).trans r0
    have d1:=(zau _ (b:=w.heap.size) (b':=w.heap.size+1) 1 1 (.slice vp LL vc) hne).trans r1
    have e1:=(World.cell?_setCell_other _ _ _ (.bool false) (show(⟨w.heap.size,0,none⟩:Addr)≠⟨w.heap.size,1,none⟩ by simp)).trans d1
    have e0:=za9 (u:=.bool false) d0
    have g0:=((World.cell?_setCell_other _ _ _ (.slice vp LL vc) (show(⟨w.heap.size,1,none⟩:Addr)≠⟨w.heap.size,0,none⟩ by simp)).trans e0)
    have g1:=(za9 (u:=.slice vp LL vc) e1)
    have hs1:=HST.out.set c1 (λx=>by simp[I]) (.slice vp LL vc)
    have hs2:=hs1.set d0 (λx=>by simp[I]) (.bool false)
    have hs3:=hid (hs2.set e1 (λx=>by simp[I]) (.slice vp LL vc))
    have hB3:=hid (((HB.out.setCell (p:=⟨w.heap.size+1,1,none⟩) (by show w.heap.size<=w.heap.size+1;omega) (.slice vp LL vc)).setCell (p:=⟨w.heap.size,0,none⟩) (zN _) (.bool false)).setCell (p:=⟨w.heap.size,1,none⟩) (zN _) (.slice vp LL vc))
    have G:=hid (⟨g0,g1⟩:_/\_)
    clear hs1 hs2 d0 d1 e0 e1 g0 g1
    go_wp2
    have g0:=G.out.1;have g1:=G.out.2
    exact bodyPost_ret (v:=.agg #[.bool false,.slice vp LL vc]) (by simp[results,Tryz.results160,go_sem,g0,g1]) rfl ⟨_,rfl,hs3.out,hB3.out⟩
 ·have hdec:decide (z<0)=true:=by rw[decide_eq_true_iff];exact hzn
  rw[he,hdec,<-hn]
  obtain⟨t,ht⟩:∃t:ByteArray,t=⟨(45::l).toArray⟩:=⟨_,rfl⟩
  obtain⟨t1,t2⟩:=zdd (45::l) t ht
  have hts:t.size=s.size+1:=by rw[t1,b1];simp
  have ht0:0<t.size:=by omega
  have htb:t.size<=701:=by omega
  have hx:t.extract 1 t.size=s:=by rw[ht,zev,hs];rfl
  show Calls _ _ #[.string ⟨(45::l).toArray⟩] _ _
  rw[<-ht]
  have h45:(((t[0]'ht0).toNat:Int)==45)=true:=by rw[t2 0 (by simp) ht0];rfl
  have hI:ReadS w true n 0 (.slice none 0 0) ((w.alloc (.cells #[.bool false,.slice none 0 0] 191)).alloc (.cells #[.bool true,.slice none 0 0] 191)):=by
   refine⟨((zM _ w).alloc (zN _) _).alloc (by simp) _,?_,?_,?_⟩
   ·exact(Below.heap_alloc _ _ _ (by simp)).trans (heap_alloc_new w _)
   ·have:=heap_alloc_new (w.alloc (.cells #[.bool false,.slice none 0 0] 191)) (.cells #[.bool true,.slice none 0 0] 191)
    rwa [zH] at this
   ·exact World.ownsRow_nil _ _ _ _
  have HI:=hid hI
  clear hI b1 b2 hs hll hd hpos hl2 he hl hn hzn hdec ht t1 t2 hts
  go_enter Tryz.func160,Tryz.ntmps160
  go_wp2
  clear hx h45
  go_loopw [4] (λi wr=>∃(k:Nat) (v:Value),i=.int .i64 ((s.size:Int)-6*k)/\6*k<s.size+6/\ReadS w true n k v wr) (λi _=>(zL i+6).toNat)
  case atStart=>exact⟨0,_,by simp,by omega,HI.out⟩
  case round=>
   clear HI
   obtain⟨k,v,rfl,hk,hS⟩:=hrel
   obtain⟨c1,f1, -⟩:=hS.c1
   by_cases hlt:6*k<s.size
   ·obtain⟨e,he⟩:∃e,e=s.size-6*k:=⟨_,rfl⟩
    obtain⟨f,hf⟩:∃f,f=e-6:=⟨_,rfl⟩
    have hE:(s.size:Int)-6*k=(e:Int):=by omega
    rw[hE]
    have hm:max (0:Int) ((e:Int)-6)=(f:Int):=by omega
    have hef:e-f<=6:=by omega
    have hfe:f<=e:=by omega
    have hes:e<=s.size:=by omega
    have he0:0<e:=by omega
    have CVk:=CV2.out k
    rw[<-he,<-hf] at CVk
    have HCV:=hid CVk
    have HE:=hid hE
    have HS:=hid hS
    clear hE CVk hS hf c1 f1 he
    go_wp2
    go_loopw [5,6] (λa i wr'=>wr'=wr/\∃j x:Nat,f<=j/\j<=e/\i=.int .i64 j/\a=.int .i64 x/\vf j=vf f*10^(j-f)+x/\x<10^(j-f)) (λ_ i _=>e-(zL i).toNat)
    case atStart=>exact⟨rfl,f,0,zN _,hfe,rfl,rfl,by simp,by simp⟩
    case round=>
     obtain⟨hw',j,x,hj1,hj2,rfl,rfl,hv,hx⟩:=hrel
     subst hw'
     have hx6:x<1000000:=zS hx (yF (by omega) (by omega):10^(j-f)<=10^6)
     by_cases hje:j<e
     ·have hjs:j<s.size:=by omega
      obtain⟨d1',d2',d3⟩:=ST.out j hjs
      have HV:=hid (show vf (j+1)=vf f*10^(j+1-f)+(10*x+((s[j]'hjs).toNat-48))/\10*x+((s[j]'hjs).toNat-48)<10^(j+1-f) by
       rw[show j+1-f=(j-f)+1 by omega,yO,d3,hv]
       constructor
       ·rw[Nat.mul_add,<-Nat.mul_assoc,yP 10,Nat.mul_assoc,yP 10];omega
       ·omega)
      have d1:(48:Int)<=((s[j]'hjs).toNat:Int):=by omega
      have d2:((s[j]'hjs).toNat:Int)<=57:=by omega
      clear hv hx d3
      go_wp2
      go_roundw
      case rel=>exact⟨by first|rfl|trivial,j+1,10*x+((s[j]'hjs).toNat-48),by omega,by omega,by go_num,by show Value.int .i64 _=Value.int .i64 _;congr 1;omega,HV.out.1,HV.out.2⟩
      case measure=>simp[zL];omega
     ·obtain rfl:j=e:=by omega
      have hxc:=HCV.out x hlt hv hx
      have HX:=hid hxc
      obtain⟨c1,f1, -⟩:=HS.out.c1
      have hsz:w.heap.size+2<=wr.heap.size:=by
       have h1:=(Array.getElem?_eq_some_iff.1 HS.out.xb).1
       omega
      clear hv hx hxc
      go_wp2_with (at_builtin;refine wpList_append_own _ rfl _ _ 107 rfl (w.heap.size+2) 3 i0 (.int .i64 0) 1 8 Tryz.underlying107 hi hz0 hz1 hz2 rfl (by decide) _ _ _ rfl (HS.out.own.alloc _) ⟨wr.heap.size,0,none⟩ 1 1 [.int .i64 (x:Int)] rfl rfl (zep _ _ _) (zfn _) (by unfold maxLen;omega) (by omega) (by simp;omega) ?_)
      intro v' w1 hown' hgrow _
      obtain⟨vp',vm',vc',rfl⟩:=zg0 hown'
      have hb1:Below (w.heap.size+2) wr w1:=((zM (w.heap.size+2) wr).alloc hsz _).grown hgrow (by simp;omega) (λq e=>(HS.out.own.lt q e).1)
      have hxb:=(hb1.block (w.heap.size+1) (by omega)).trans HS.out.xb
      have k1:w1.cell? ⟨w.heap.size+1,1,none⟩=some v:=by simp[World.cell?,hxb]
      have k2:w1.frozen? ⟨w.heap.size+1,1,none⟩=false:=by simp[World.frozen?,hxb]
      have HN:=hid (HS.out.step x HX.out hown' hb1)
      clear hgrow hown' hb1 hxb c1 f1 hsz
      go_wp2
      go_roundw
      case rel=>exact⟨k+1,_,by have:=HE.out;show Value.int .i64 _=Value.int .i64 _;congr 1;omega,by omega,HN.out⟩
      case measure=>simp[zL];omega
   ·have hle:¬(0:Int)<(s.size:Int)-6*k:=by omega
    have hch:=CE.out k (by omega)
    obtain⟨vp,vm,vc,rfl⟩:=zg0 hS.own
    have hlen:=zj6 n k
    have hk2:k<=200:=by omega
    have hrr:=hS.r
    obtain⟨r0,fr0,r1,fr1⟩:=hrr
    obtain⟨-, -,c0⟩:=hS.c1
    have T:=hid (zeb vp vm vc (zc0 n k) wr (Sl.of_own hS.own) (by rw[hlen];omega))
    have hst:Sl wr (.slice vp (zat (zc0 n k)).length vc) ((zat (zc0 n k)).map I):=Sl.of_own (zh4 hS.own hlen)
    rw[zmk hch] at T hst
    have HST:=hid hst
    have HB:=hid hS.bel
    have hne:w.heap.size≠w.heap.size+1:=by omega
    have hne2:w.heap.size+1≠w.heap.size:=by omega
    clear hS hst hch hlen hlt hk hk2
    go_wp2_with fail
    refine T.out.mono ?_
    rintro e w9 ⟨rfl,hw9⟩
    have hw9':=hw9.symm;subst hw9'
    clear T hw9
    generalize hLL:(zaa B6 n).length=LL at*
    have d0:=(zau _ (b:=w.heap.size) (b':=w.heap.size+1) 0 1 (.slice vp LL vc) hne).trans r0
    have d1:=(zau _ (b:=w.heap.size) (b':=w.heap.size+1) 1 1 (.slice vp LL vc) hne).trans r1
    have e1:=(World.cell?_setCell_other _ _ _ (.bool true) (show(⟨w.heap.size,0,none⟩:Addr)≠⟨w.heap.size,1,none⟩ by simp)).trans d1
    have e0:=za9 (u:=.bool true) d0
    have g0:=((World.cell?_setCell_other _ _ _ (.slice vp LL vc) (show(⟨w.heap.size,1,none⟩:Addr)≠⟨w.heap.size,0,none⟩ by simp)).trans e0)
    have g1:=(za9 (u:=.slice vp LL vc) e1)
    have hs1:=HST.out.set c1 (λx=>by simp[I]) (.slice vp LL vc)
    have hs2:=hs1.set d0 (λx=>by simp[I]) (.bool true)
    have hs3:=hid (hs2.set e1 (λx=>by simp[I]) (.slice vp LL vc))
    have hB3:=hid (((HB.out.setCell (p:=⟨w.heap.size+1,1,none⟩) (by show w.heap.size<=w.heap.size+1;omega) (.slice vp LL vc)).setCell (p:=⟨w.heap.size,0,none⟩) (zN _) (.bool true)).setCell (p:=⟨w.heap.size,1,none⟩) (zN _) (.slice vp LL vc))
    have G:=hid (⟨g0,g1⟩:_/\_)
    clear hs1 hs2 d0 d1 e0 e1 g0 g1
    go_wp2
    have g0:=G.out.1;have g1:=G.out.2
    exact bodyPost_ret (v:=.agg #[.bool true,.slice vp LL vc]) (by simp[results,Tryz.results160,go_sem,g0,g1]) rfl ⟨_,rfl,hs3.out,hB3.out⟩
theorem zi1 (m:Bool) (p:Option Addr) (c:Nat) (w:zA):
 qJ 162 #[.agg #[.bool m,.slice p 0 c]] w (.string ⟨#[48]⟩):=by
 have hb1:qL w (w.alloc (.cells #[.bool m,.slice p 0 c] 191)):=(zM _ w).alloc (zN _) _
 have HB:=hid hb1;clear hb1
 go_enter Tryz.func162,Tryz.ntmps162
 go_wp2
 go_ret
 exact⟨rfl,HB.out⟩
theorem zn2 (m:Bool) (vx:Value) (n:Nat) (w:zA) (hx:Sl w vx ((zaa B6 n).map I)) (lx:(zaa B6 n).length<=200):
 qJ 162 #[.agg #[.bool m,vx]] w (St (zE (sgn m n))):=by
 rcases Nat.eq_zero_or_pos n with rfl|h
 ·obtain⟨p,c,rfl, -⟩:=hx
  rw[zaz]
  have e:zE (sgn m 0)=[48]:=by rw[show sgn m 0=((0:Nat):Int) by cases m<;>simp[sgn],Str.zad];decide+kernel
  rw[e]
  exact zi1 m p c w
 ·exact zvd m vx n h w hx lx
theorem zgs (m:Bool) (vx:Value) (n:Nat) (w:zA) (hx:Sl w vx ((zaa B6 n).map I)) (lx:(zaa B6 n).length<=200) (hd:digs (sgn m n)<=300):
 qJ 252 #[.agg #[.bool m,vx]] w (.tuple #[St (zE (sgn m n)),.int .i64 0]):=by
 obtain⟨px,cx,rfl, -⟩:=id hx
 simp only[List.length_map] at*
 obtain⟨W1,hW1⟩:∃W1,W1=w.alloc (.cells #[.bool m,.slice px (zaa B6 n).length cx] 191):=⟨_,rfl⟩
 have hb1:qL w W1:=by rw[hW1];exact(zM _ w).alloc (zN _) _
 have hw:=zn2 m _ n W1 (hx.below hb1) lx
 have hc:=λW=>zh6 (sgn m n) hd W
 generalize (zaa B6 n).length=L at*
 generalize zE (sgn m n)=s at*
 have HW:=hid hw;have HC:=hid hc;have HB:=hid hb1;have HW1:=hid hW1
 clear hw hc hb1 hW1 hx hd lx
 go_enter Tryz.func252,Tryz.ntmps252
 go_wp2_with fail
 rw[<-HW1.out]
 refine HW.out.mono ?_
 rintro e w2 ⟨rfl,hb2⟩
 have HB2:=qT HB hb2
 clear hb2
 go_wp2_with fail
 refine(HC.out w2).mono ?_
 rintro e w3 ⟨rfl,hw3⟩
 subst hw3
 go_wp2_with fail
 go_ret2
 exact⟨rfl,HB2.out⟩
theorem zc6 (z:Int) (k:Nat) (hk:0<k) (h:digs z<=6*k):(zaa B6 z.natAbs).length<=k:=by
 apply zfv (B:=B6) (by decide)
 have:=(za3 z (6*k) (by omega)).1 h
 rwa [Nat.pow_mul] at this
theorem zfs {z:Int} {k:Nat} (hk:0<k) (h:(zE z).length<=k):z.natAbs<10^k:=
 (za3 z k hk).1 (zO (zbr z) h)
theorem zvi (x y:Int) (hx:(zE x).length<=17) (hy:(zE y).length<=17) (w:zA) (hw:Wd w):
 qJ 251 #[St (zE x),St (zE y)] w (.tuple #[St (zE (x+y)),.int .i64 0]):=by
 have ax:=zfs (by omega) hx
 have ay:=zfs (by omega) hy
 have c1:=λW=>zcb x y (zO (zbr x) (by omega)) (zO (zbr y) (by omega)) W
 have c2:=λW=>ze3 x y hx hy W
 have c3:=zb3 (x+y) (by omega) (by omega) w hw
 have e1:IntKind.i64.wrap (x+y)=x+y:=zI _ (by omega)
 generalize zE x=u at*
 generalize zE y=v at*
 generalize zE (x+y)=t at*
 have C1:=hid c1;have C2:=hid c2;have C3:=hid c3
 clear c1 c2 c3 hx hy ax ay
 go_enter Tryz.func251,Tryz.ntmps251
 go_wp2_with fail
 refine(C1.out w).mono ?_
 rintro e w1 ⟨rfl,hw1⟩
 subst hw1
 go_wp2_with fail
 refine(C2.out w1).mono ?_
 rintro e w2 ⟨rfl,hw2⟩
 subst hw2
 go_wp2_with fail
 refine C3.out.mono ?_
 rintro e w3 ⟨rfl,hb3⟩
 go_wp2_with fail
 go_ret2
 exact⟨rfl,hb3⟩
theorem zxo (x y:Int) (h:17<(zE x).length\/17<(zE y).length) (hx:digs x<=300) (hy:digs y<=300) (hz:digs (x+y)<=300) (w:zA):
 qJ 251 #[St (zE x),St (zE y)] w (.tuple #[St (zE (x+y)),.int .i64 0]):=by
 have c1:=λW=>zcb x y hx hy W
 have c2:=λW=>zf5 x y h (zO (za7 x) (by omega)) (zO (za7 y) (by omega)) W
 have c3:=λW=>zcp x W (by omega)
 have c4:=λW=>zcp y W (by omega)
 have bx:=zc6 x 50 (by omega) hx
 have by':=zc6 y 50 (by omega) hy
 have c5:=λvx vy W h1 h2=>zrz (decide (x<0)) (decide (y<0)) vx vy x.natAbs y.natAbs W h1 h2 (by omega) (by omega)
 rw[zcs,zcs] at c5
 have c6:=λm v n (hs:sgn m n=x+y) W h1=>zgs m v n W h1 (by
  have:=zc6 (x+y) 50 (by omega) hz
  rw[<-hs,zge] at this;omega) (by rw[hs];exact hz)
 have C1:=hid c1;have C2:=hid c2;have C3:=hid c3;have C4:=hid c4;have C5:=hid c5
 have C6:=hid (show ∀m v n,sgn m n=x+y->∀W:zA,Sl W v ((zaa B6 n).map I)->qJ 252 #[.agg #[.bool m,v]] W (.tuple #[St (zE (x+y)),.int .i64 0]) from λm v n hs W h1=>by
  have:=c6 m v n hs W h1;rw[hs] at this;exact this)
 clear c1 c2 c3 c4 c5 c6 hx hy hz h bx by'
 generalize zE x=u at*
 generalize zE y=v at*
 generalize zE (x+y)=t at*
 generalize decide (x<0)=mx at*
 generalize decide (y<0)=my at*
 go_enter Tryz.func251,Tryz.ntmps251
 go_wp2_with fail
 refine(C1.out w).mono ?_
 rintro e w1 ⟨rfl,hw1⟩
 subst hw1
 go_wp2_with fail
 refine(C2.out w1).mono ?_
 rintro e w2 ⟨⟨a,b,rfl⟩,hw2⟩
 subst hw2
 go_wp2_with fail
 refine(C3.out w2).mono ?_
 rintro e w3 ⟨vx,rfl,hsx,hb3⟩
 have H3:=hid (⟨hsx,hb3⟩:_/\_);clear hsx hb3
 go_wp2_with fail
 refine(C4.out w3).mono ?_
 rintro e w4 ⟨vy,rfl,hsy,hb4⟩
 have H4:=hid (⟨H3.out.1.below hb4,hsy,H3.out.2.trans (hb4.mono H3.out.2.size)⟩:_/\_/\_);clear hsy hb4 H3
 go_wp2_with fail
 refine(C5.out vx vy w4 H4.out.1 H4.out.2.1).mono ?_
 rintro e w5 ⟨m,vz,n,rfl,hs,hsz,hb5⟩
 have H5:=hid (⟨hs,hsz,H4.out.2.2.trans (hb5.mono H4.out.2.2.size)⟩:_/\_/\_);clear hs hsz hb5 H4
 go_wp2_with fail
 refine(C6.out m vz n H5.out.1 w5 H5.out.2.1).mono ?_
 rintro e w6 ⟨rfl,hb6⟩
 have H6:=hid (H5.out.2.2.trans (hb6.mono H5.out.2.2.size));clear hb6 H5
 go_wp2_with fail
 go_ret2
 exact⟨rfl,H6.out⟩
theorem zzz (x y:Int) (hx:digs x<=300) (hy:digs y<=300) (hz:digs (x+y)<=300) (w:zA) (hw:Wd w):
 qJ 251 #[St (zE x),St (zE y)] w (.tuple #[St (zE (x+y)),.int .i64 0]):=by
 by_cases h:17<(zE x).length\/17<(zE y).length
 ·exact zxo x y h hx hy hz w
 ·exact zvi x y (by omega) (by omega) w hw
theorem zvj (x y:Int) (hx:(zE x).length<=17) (hy:(zE y).length<=17) (hxy:(zE x).length+(zE y).length<=18) (w:zA) (hw:Wd w):
 qJ 193 #[St (zE x),St (zE y)] w (.tuple #[St (zE (x*y)),.int .i64 0]):=by
 have ax:=zfs (by omega) hx
 have ay:=zfs (by omega) hy
 have hux:(zE x).length<=17:=hx
 have huy:(zE y).length<=17:=hy
 have c1:=λW=>zcb x y (zO (zbr x) (by omega)) (zO (zbr y) (by omega)) W
 have c2:=λW=>ze3 x y hx hy W
 have hp:(x*y).natAbs<1000000000000000000:=by
  rw[yK]
  have hlx:1<=(zE x).length:=zO (zbn x) (zbr x)
  have hly:1<=(zE y).length:=zO (zbn y) (zbr y)
  have h1:=zfs (z:=x) hlx (zN _)
  have h2:=zfs (z:=y) hly (zN _)
  have h3:=Nat.mul_lt_mul'' h1 h2
  rw[<-Nat.pow_add] at h3
  exact zS h3 (zO (yF (by omega) hxy) (by decide))
 have c3:=zb3 (x*y) (by omega) (by omega) w hw
 have e1:IntKind.i64.wrap (x*y)=x*y:=zI _ (by omega)
 have hsum:((zE x).length:Int)+(zE y).length<=18:=by omega
 generalize zE x=u at*
 generalize zE y=v at*
 generalize zE (x*y)=t at*
 have C1:=hid c1;have C2:=hid c2;have C3:=hid c3
 clear c1 c2 c3 hx hy ax ay hp hxy
 go_enter Tryz.func193,Tryz.ntmps193
 go_wp2_with fail
 refine(C1.out w).mono ?_
 rintro e w1 ⟨rfl,hw1⟩
 subst hw1
 go_wp2_with fail
 refine(C2.out w1).mono ?_
 rintro e w2 ⟨rfl,hw2⟩
 subst hw2
 go_wp2_with fail
 refine C3.out.mono ?_
 rintro e w3 ⟨rfl,hb3⟩
 go_wp2_with fail
 go_ret2
 exact⟨rfl,hb3⟩
theorem zxp (x y:Int) (h:17<(zE x).length\/17<(zE y).length) (hx:digs x<=300) (hy:digs y<=300) (hz:digs (x*y)<=300) (w:zA):
 qJ 193 #[St (zE x),St (zE y)] w (.tuple #[St (zE (x*y)),.int .i64 0]):=by
 have c1:=λW=>zcb x y hx hy W
 have c2:=λW=>zf5 x y h (zO (za7 x) (by omega)) (zO (za7 y) (by omega)) W
 have c3:=λW=>zcp x W (by omega)
 have c4:=λW=>zcp y W (by omega)
 have bx:=zc6 x 50 (by omega) hx
 have by':=zc6 y 50 (by omega) hy
 have c5:=λvx vy W h1 h2=>zrs (decide (x<0)) (decide (y<0)) vx vy x.natAbs y.natAbs W h1 h2 (by omega) (by omega)
 rw[zcs,zcs] at c5
 have c6:=λm v n (hs:sgn m n=x*y) W h1=>zgs m v n W h1 (by
  have:=zc6 (x*y) 50 (by omega) hz
  rw[<-hs,zge] at this;omega) (by rw[hs];exact hz)
 have C1:=hid c1;have C2:=hid c2;have C3:=hid c3;have C4:=hid c4;have C5:=hid c5
 have C6:=hid (show ∀m v n,sgn m n=x*y->∀W:zA,Sl W v ((zaa B6 n).map I)->qJ 252 #[.agg #[.bool m,v]] W (.tuple #[St (zE (x*y)),.int .i64 0]) from λm v n hs W h1=>by
  have:=c6 m v n hs W h1;rw[hs] at this;exact this)
 clear c1 c2 c3 c4 c5 c6 hx hy hz h bx by'
 generalize zE x=u at*
 generalize zE y=v at*
 generalize zE (x*y)=t at*
 generalize decide (x<0)=mx at*
 generalize decide (y<0)=my at*
 go_enter Tryz.func193,Tryz.ntmps193
 go_wp2_with fail
 refine(C1.out w).mono ?_
 rintro e w1 ⟨rfl,hw1⟩
 subst hw1
 go_wp2_with fail
 refine(C2.out w1).mono ?_
 rintro e w2 ⟨⟨a,b,rfl⟩,hw2⟩
 subst hw2
 go_wp2_with fail
 refine(C3.out w2).mono ?_
 rintro e w3 ⟨vx,rfl,hsx,hb3⟩
 have H3:=hid (⟨hsx,hb3⟩:_/\_);clear hsx hb3
 go_wp2_with fail
 refine(C4.out w3).mono ?_
 rintro e w4 ⟨vy,rfl,hsy,hb4⟩
 have H4:=hid (⟨H3.out.1.below hb4,hsy,H3.out.2.trans (hb4.mono H3.out.2.size)⟩:_/\_/\_);clear hsy hb4 H3
 go_wp2_with fail
 refine(C5.out vx vy w4 H4.out.1 H4.out.2.1).mono ?_
 rintro e w5 ⟨m,vz,n,rfl,hs,hsz,hb5⟩
 have H5:=hid (⟨hs,hsz,H4.out.2.2.trans (hb5.mono H4.out.2.2.size)⟩:_/\_/\_);clear hs hsz hb5 H4
 go_wp2_with fail
 refine(C6.out m vz n H5.out.1 w5 H5.out.2.1).mono ?_
 rintro e w6 ⟨rfl,hb6⟩
 have H6:=hid (H5.out.2.2.trans (hb6.mono H5.out.2.2.size));clear hb6 H5
 go_wp2_with fail
 go_ret2
 exact⟨rfl,H6.out⟩
theorem zz0 (x y:Int) (h1:(zE x).length<=17) (h2:(zE y).length<=17) (h:18<(zE x).length+(zE y).length) (hx:digs x<=300) (hy:digs y<=300) (hz:digs (x*y)<=300) (w:zA):
 qJ 193 #[St (zE x),St (zE y)] w (.tuple #[St (zE (x*y)),.int .i64 0]):=by
 have c1:=λW=>zcb x y hx hy W
 have c2:=λW=>ze3 x y h1 h2 W
 have hsum:¬((zE x).length:Int)+(zE y).length<=18:=by omega
 have hux:(zE x).length<=17:=h1
 have huy:(zE y).length<=17:=h2
 have c3:=λW=>zcp x W (by omega)
 have c4:=λW=>zcp y W (by omega)
 have bx:=zc6 x 50 (by omega) hx
 have by':=zc6 y 50 (by omega) hy
 have c5:=λvx vy W h1 h2=>zrs (decide (x<0)) (decide (y<0)) vx vy x.natAbs y.natAbs W h1 h2 (by omega) (by omega)
 rw[zcs,zcs] at c5
 have c6:=λm v n (hs:sgn m n=x*y) W h1=>zgs m v n W h1 (by
  have:=zc6 (x*y) 50 (by omega) hz
  rw[<-hs,zge] at this;omega) (by rw[hs];exact hz)
 have C1:=hid c1;have C2:=hid c2;have C3:=hid c3;have C4:=hid c4;have C5:=hid c5
 have C6:=hid (show ∀m v n,sgn m n=x*y->∀W:zA,Sl W v ((zaa B6 n).map I)->qJ 252 #[.agg #[.bool m,v]] W (.tuple #[St (zE (x*y)),.int .i64 0]) from λm v n hs W h1=>by
  have:=c6 m v n hs W h1;rw[hs] at this;exact this)
 clear c1 c2 c3 c4 c5 c6 hx hy hz h h1 h2 bx by'
 generalize zE x=u at*
 generalize zE y=v at*
 generalize zE (x*y)=t at*
 generalize decide (x<0)=mx at*
 generalize decide (y<0)=my at*
 go_enter Tryz.func193,Tryz.ntmps193
 go_wp2_with fail
 refine(C1.out w).mono ?_
 rintro e w1 ⟨rfl,hw1⟩
 subst hw1
 go_wp2_with fail
 refine(C2.out w1).mono ?_
 rintro e w2 ⟨rfl,hw2⟩
 subst hw2
 go_wp2_with fail
 refine(C3.out w2).mono ?_
 rintro e w3 ⟨vx,rfl,hsx,hb3⟩
 have H3:=hid (⟨hsx,hb3⟩:_/\_);clear hsx hb3
 go_wp2_with fail
 refine(C4.out w3).mono ?_
 rintro e w4 ⟨vy,rfl,hsy,hb4⟩
 have H4:=hid (⟨H3.out.1.below hb4,hsy,H3.out.2.trans (hb4.mono H3.out.2.size)⟩:_/\_/\_);clear hsy hb4 H3
 go_wp2_with fail
 refine(C5.out vx vy w4 H4.out.1 H4.out.2.1).mono ?_
 rintro e w5 ⟨m,vz,n,rfl,hs,hsz,hb5⟩
 have H5:=hid (⟨hs,hsz,H4.out.2.2.trans (hb5.mono H4.out.2.2.size)⟩:_/\_/\_);clear hs hsz hb5 H4
 go_wp2_with fail
 refine(C6.out m vz n H5.out.1 w5 H5.out.2.1).mono ?_
 rintro e w6 ⟨rfl,hb6⟩
 have H6:=hid (H5.out.2.2.trans (hb6.mono H5.out.2.2.size));clear hb6 H5
 go_wp2_with fail
 go_ret2
 exact⟨rfl,H6.out⟩
theorem zr2 (x y:Int) (hx:digs x<=300) (hy:digs y<=300) (hz:digs (x*y)<=300) (w:zA) (hw:Wd w):
 qJ 193 #[St (zE x),St (zE y)] w (.tuple #[St (zE (x*y)),.int .i64 0]):=by
 by_cases h:17<(zE x).length\/17<(zE y).length
 ·exact zxp x y h hx hy hz w
 ·by_cases h2:(zE x).length+(zE y).length<=18
  ·exact zvj x y (by omega) (by omega) h2 w hw
  ·exact zz0 x y (by omega) (by omega) (by omega) hx hy hz w
theorem zom (x y:Int) (hx:(zE x).length<=17) (hy:(zE y).length<=17) (w:zA):
 qJ 149 #[St (zE x),St (zE y)] w (.tuple #[.int .i64 (cmpZ x y),.int .i64 0]):=by
 have c1:=λW=>zcb x y (zO (zbr x) (by omega)) (zO (zbr y) (by omega)) W
 have c2:=λW=>ze3 x y hx hy W
 have C1:=hid c1;have C2:=hid c2
 have CZ:=hid (show(x<y->cmpZ x y= -1)/\(y<x->cmpZ x y=1)/\(x=y->cmpZ x y=0) by
  unfold cmpZ
  refine⟨λh=>?_,λh=>?_,λh=>?_⟩
  ·simp[h]
  ·have:¬x<y:=by omega
   have h2:¬x=y:=by omega
   simp[this,h]
  ·subst h;simp)
 clear c1 c2 hx hy
 generalize zE x=u at*
 generalize zE y=v at*
 generalize cmpZ x y=z at*
 have hB:=hid (zM w.heap.size w)
 go_enter Tryz.func149,Tryz.ntmps149
 go_wp2_with fail
 refine(C1.out w).mono ?_
 rintro e w1 ⟨rfl,hw1⟩
 subst hw1
 go_wp2_with fail
 refine(C2.out w1).mono ?_
 rintro e w2 ⟨rfl,hw2⟩
 subst hw2
 rcases Int.lt_trichotomy x y with h|h|h
 ·obtain rfl:=CZ.out.1 h
  go_wp2_with fail
  go_ret2
  exact⟨rfl,hB.out⟩
 ·obtain rfl:=CZ.out.2.2 h
  subst h
  go_wp2_with fail
  go_ret2
  exact⟨rfl,hB.out⟩
 ·obtain rfl:=CZ.out.2.1 h
  have h2:¬x<y:=by omega
  go_wp2_with fail
  go_ret2
  exact⟨rfl,hB.out⟩
theorem zp9 (x y:Int) (h:17<(zE x).length\/17<(zE y).length) (hx:digs x<=300) (hy:digs y<=300) (w:zA):
 qJ 149 #[St (zE x),St (zE y)] w (.tuple #[.int .i64 (cmpZ x y),.int .i64 0]):=by
 have c1:=λW=>zcb x y hx hy W
 have c2:=λW=>zf5 x y h (zO (za7 x) (by omega)) (zO (za7 y) (by omega)) W
 have c3:=λW=>zcp x W (by omega)
 have c4:=λW=>zcp y W (by omega)
 have bx:=zc6 x 50 (by omega) hx
 have by':=zc6 y 50 (by omega) hy
 have c7:=λvy W h1=>zzy (decide (y<0)) vy y.natAbs W h1 (by omega)
 rw[zcs] at c7
 have c5:=λm' vx vy n' (hs:sgn m' n'= -y) W h1 h2=>zrz (decide (x<0)) m' vx vy x.natAbs n' W h1 h2 (by omega) (by have:=zge m' n';rw[hs,Int.natAbs_neg] at this;rw[<-this];omega)
 have C5:=hid (show ∀m' vx vy n',sgn m' n'= -y->∀W:zA,Sl W vx ((zaa B6 x.natAbs).map I)->Sl W vy ((zaa B6 n').map I)->Calls Tryz.prog 194 #[.agg #[.bool (decide (x<0)),vx],.agg #[.bool m',vy]] W (zh5 W (x-y)) from λm' vx vy n' hs W h1 h2=>by
  have:=c5 m' vx vy n' hs W h1 h2
  rw[zcs,hs] at this
  exact this)
 have CZ:=hid (show(x<y->cmpZ x y= -1)/\(y<x->cmpZ x y=1)/\(x=y->cmpZ x y=0) by
  unfold cmpZ
  refine⟨λh=>?_,λh=>?_,λh=>?_⟩
  ·simp[h]
  ·have:¬x<y:=by omega
   simp[this,h]
  ·subst h;simp)
 have C1:=hid c1;have C2:=hid c2;have C3:=hid c3;have C4:=hid c4;have C7:=hid c7
 clear c1 c2 c3 c4 c5 c7 hx hy h bx by'
 generalize zE x=u at*
 generalize zE y=v at*
 generalize decide (x<0)=mx at*
 generalize decide (y<0)=my at*
 generalize cmpZ x y=z at*
 go_enter Tryz.func149,Tryz.ntmps149
 go_wp2_with fail
 refine(C1.out w).mono ?_
 rintro e w1 ⟨rfl,hw1⟩
 subst hw1
 go_wp2_with fail
 refine(C2.out w1).mono ?_
 rintro e w2 ⟨⟨a,b,rfl⟩,hw2⟩
 subst hw2
 go_wp2_with fail
 refine(C3.out w2).mono ?_
 rintro e w3 ⟨vx,rfl,hsx,hb3⟩
 have H3:=hid (⟨hsx,hb3⟩:_/\_);clear hsx hb3
 go_wp2_with fail
 refine(C4.out w3).mono ?_
 rintro e w4 ⟨vy,rfl,hsy,hb4⟩
 have H4:=hid (⟨H3.out.1.below hb4,hsy,H3.out.2.trans (hb4.mono H3.out.2.size)⟩:_/\_/\_);clear hsy hb4 H3
 go_wp2_with fail
 refine(C7.out vy w4 H4.out.2.1).mono ?_
 rintro e w5 ⟨m',vn,n',rfl,hs',hsn,hb5⟩
 have H5:=hid (⟨H4.out.1.below hb5,hsn,H4.out.2.2.trans (hb5.mono H4.out.2.2.size),hs'⟩:_/\_/\_/\_);clear hsn hb5 hs' H4
 go_wp2_with fail
 refine(C5.out m' vx vn n' H5.out.2.2.2 w5 H5.out.1 H5.out.2.1).mono ?_
 rintro e w6 ⟨m,vz,n,rfl,hs,hsz,hb6⟩
 obtain⟨pz,cz,rfl, -⟩:=hsz
 have hB6:=H5.out.2.2.1.trans (hb6.mono H5.out.2.2.1.size)
 have HB:=hid (hB6.alloc hB6.size (.cells #[.bool m,.slice pz ((zaa B6 n).map I).length cz] 191))
 have hl:((zaa B6 n).map I).length=0↔n=0:=by
  rw[List.length_map,List.length_eq_zero_iff];exact zbd (by decide) n
 generalize ((zaa B6 n).map I).length=L at*
 clear hb6 H5 hB6
 rcases Nat.eq_zero_or_pos n with h0|h0
 ·have hL:L=0:=hl.2 h0
  obtain rfl:=CZ.out.2.2 (by rw[h0] at hs;cases m<;>simp[sgn] at hs<;>omega)
  subst hL
  clear hl hs
  go_wp2_with fail
  go_ret2
  exact⟨rfl,HB.out⟩
 ·have hL:((L:Int)==0)=false:=by rw[beq_eq_false_iff_ne];have:=hl.1;omega
  clear hl
  cases m
  ·obtain rfl:=CZ.out.2.1 (by simp[sgn] at hs;omega)
   clear hs
   go_wp2_with fail
   go_ret2
   exact⟨rfl,HB.out⟩
  ·obtain rfl:=CZ.out.1 (by simp[sgn] at hs;omega)
   clear hs
   go_wp2_with fail
   go_ret2
   exact⟨rfl,HB.out⟩
theorem zr3 (x y:Int) (hx:digs x<=300) (hy:digs y<=300) (w:zA):
 qJ 149 #[St (zE x),St (zE y)] w (.tuple #[.int .i64 (cmpZ x y),.int .i64 0]):=by
 by_cases h:17<(zE x).length\/17<(zE y).length
 ·exact zp9 x y h hx hy w
 ·exact zom x y (by omega) (by omega) w
theorem zvk (x y:Int) (hx:(zE x).length<=17) (hy:(zE y).length<=17) (w:zA) (hw:Wd w):
 qJ 109 #[St (zE x),St (zE y)] w (.tuple #[St (zE (Int.gcd x y:Int)),.int .i64 0]):=by
 obtain⟨x1,x2⟩:=lt18 (zO hx (by omega))
 obtain⟨y1,y2⟩:=lt18 (zO hy (by omega))
 have hb:=λW=>zcb x y (zO (zbf (by omega)) (by omega)) (zO (zbf (by omega)) (by omega)) W
 have hs:=λW=>ze3 x y hx hy W
 have HB:=hid hb;clear hb
 have HS:=hid hs;clear hs hx hy
 have HW:=hid hw;clear hw
 obtain⟨g,hg⟩:∃g,g=Int.gcd x y:=⟨_,rfl⟩
 rw[<-hg]
 have HG:=hid hg;clear hg
 go_enter Tryz.func109,Tryz.ntmps109
 go_wp2_with fail
 refine(HB.out w).mono ?_
 rintro e w1 ⟨rfl,hw1⟩
 have hw1':=hw1.symm;subst hw1'
 go_wp2_with fail
 refine(HS.out w).mono ?_
 rintro e w2 ⟨rfl,hw2⟩
 have hw2':=hw2.symm;subst hw2'
 have hB2:qL w w:=zM _ _
 go_wp2_with fail
 go_loopw [7,8] (λa b wr=>∃m n:Int,a=.int .i64 m/\b=.int .i64 n/\Hid (Int.gcd m n=g)/\(-1000000000000000000<m/\m<1000000000000000000)/\(-1000000000000000000<n/\n<1000000000000000000)/\Hid (qL w wr))
  (λ_ b _=>(zL b).natAbs)
 case atStart=>exact⟨x,y,rfl,rfl,HG.out.symm,⟨x1,x2⟩,⟨y1,y2⟩,hB2⟩
 case round=>
  clear x1 x2 y1 y2 hB2
  obtain⟨m,n,rfl,rfl,hgm,⟨m1,m2⟩,⟨n1,n2⟩,hBr⟩:=hrel
  by_cases h0:n=0
  ·subst h0
   have hgm':Int.gcd m 0=g:=hgm.out
   rw[Int.gcd_zero_right] at hgm'
   have hmx:max m (-m)=(g:Int):=by omega
   have HM:=hid hgm';clear hgm hgm'
   have hg1:(g:Int)<=1000000000000000000:=by omega
   have hneg:IntKind.i64.wrap (-m)= -m:=zI _ (by omega)
   go_wp2_with fail
   refine(zb3 (g:Int) (by omega) (by omega) wr (HW.out.below hBr.out)).mono ?_
   rintro e w3 ⟨rfl,hb3⟩
   have hB3:=hBr.out.trans (hb3.mono hBr.out.size)
   clear hb3
   go_wp2_with fail
   go_ret2
   exact⟨rfl,hB3⟩
  ·have hn0:(n !=0)=true:=by simpa using h0
   have ht1:(m.tmod n).natAbs<n.natAbs:=by rw[Int.natAbs_tmod];exact zP _ (by omega)
   obtain⟨t,ht⟩:∃t,t=m.tmod n:=⟨_,rfl⟩
   have hgt:=zmt m n
   rw[<-ht] at ht1 hgt
   have hwr:IntKind.i64.wrap (m.tmod n)=t:=by rw[<-ht];exact zI _ (by omega)
   have HGT:=hid hgt;have HT:=hid ht;clear hgt ht hwr
   go_wp2
   (refine wp_region_quiet_lit (by kernel_rfl) (by kernel_rfl) (WQ.out ?_);(repeat(first|(apply WQ.read (by rfl);(focus(rintro W ⟨n,rfl⟩;go_simp;try with_reducible rfl));try simp only[zzQ])|(apply WQ.skip (by rfl);try simp only[zzQ])));refine WQ.nil ?_;rintro _ ⟨nq,rfl⟩)
   go_wp2
   go_roundw
   case rel=>exact⟨n,t,rfl,by rw[HT.out],HGT.out.trans hgm.out,⟨n1,n2⟩,by omega,zao hBr.out _⟩
   case measure=>show(m.tmod n).natAbs<n.natAbs;rw[<-HT.out];exact ht1
theorem zm2 (b:Bool) (p:Option Addr) (k c:Nat) (W:zA):(Instr.field 191 (.agg #[.bool b,.slice p k c]) 1).run Tryz.prog W=.ok (.slice p k c) W:=by kernel_rfl
theorem zxq (x y:Int) (hx:digs x<=300) (hy:digs y<=300) (h:17<(zE x).length\/17<(zE y).length) (w:zA) (hw:Wd w):
 qJ 109 #[St (zE x),St (zE y)] w (.tuple #[St (zE (Int.gcd x y:Int)),.int .i64 0]):=by
 have hb:=λW=>zcb x y hx hy W
 have hs:=λW=>zf5 x y h (zO (za7 x) (by omega)) (zO (za7 y) (by omega)) W
 have r1:=λW=>zcp x W (by omega)
 have r2:=λW=>zcp y W (by omega)
 have l1:=zO (zc6 x 50 (by omega) hx) (show 50<=100 by omega)
 have l2:=zO (zc6 y 50 (by omega) hy) (show 50<=100 by omega)
 have hgd:=zq4 x y hx hy
 have HB:=hid hb;clear hb
 have HS:=hid hs;clear hs hx hy h
 have HW:=hid hw;clear hw
 have R1:=hid r1;have R2:=hid r2;clear r1 r2
 obtain⟨g,hg⟩:∃g,g=Int.gcd x y:=⟨_,rfl⟩
 rw[<-hg] at hgd⊢
 have HG:=hid hg;clear hg
 have hfd:=zm2
 go_enter Tryz.func109,Tryz.ntmps109
 go_wp2_with fail
 refine(HB.out w).mono ?_
 rintro e w1 ⟨rfl,hw1⟩
 have hw1':=hw1.symm;subst hw1'
 go_wp2_with fail
 refine(HS.out w).mono ?_
 rintro e w2 ⟨⟨za,zb,rfl⟩,hw2⟩
 have hw2':=hw2.symm;subst hw2'
 go_wp2_with fail
 refine(R1.out w).mono ?_
 rintro e w2 ⟨vx,rfl,hvx,hb2⟩
 have hB2:=hb2
 clear hb2
 obtain⟨px,kx,cx,rfl, -⟩:=zbx hvx
 have HVX:=hid hvx;clear hvx
 go_wp2_with fail
 refine(R2.out w2).mono ?_
 rintro e w3 ⟨vy,rfl,hvy,hb3⟩
 have hvx:=HVX.out.below hb3
 have hB3:=hB2.trans (hb3.mono hB2.size)
 clear hb3 hB2 HVX
 obtain⟨py,ky,cy,rfl, -⟩:=zbx hvy
 have HVX:=hid hvx;have HVY:=hid hvy;clear hvx hvy
 go_wp2
 go_loopg [10,11] y.natAbs (λk va vb wr=>∃a b p kb c,vb=.slice p kb c/\Hid (k=b)/\Hid (kb=(zaa B6 b).length)/\(zaa B6 a).length<=100/\(zaa B6 b).length<=100/\Hid (Sl wr va ((zaa B6 a).map I))/\Hid (Sl wr vb ((zaa B6 b).map I))/\Hid (Nat.gcd a b=g)/\Hid (qL w wr))
 case atStart=>
  obtain⟨p,k,c,e,hk⟩:=zbx HVY.out
  cases e
  exact⟨x.natAbs,y.natAbs,py,ky,cy,rfl,rfl,hk,l1,l2,HVX.out,HVY.out,HG.out.symm,hB3⟩
 case round=>
  clear HVX HVY hB3
  obtain⟨a,b,p,kb,c,rfl,hk,hkb,la,lb,hva,hvb,hgc,hBr⟩:=hrel
  by_cases h0:kb=0
  ·have hb0:b=0:=(zbd (B:=B6) (by decide) b).1 (List.length_eq_zero_iff.1 (by rw[<-hkb.out];exact h0))
   have hga:a=g:=by have:=hgc.out;rw[hb0,Nat.gcd_zero_right] at this;exact this
   have hz0:¬(0:Int)<kb:=by omega
   have HA:=hid hga;clear hga
   have HB0:=hid hb0;clear hb0
   have HK0:=hid h0;clear h0
   obtain⟨p1,k1,c1,rfl, -⟩:=zbx hva.out
   have hres:=zn2 false _ a wr hva.out (by omega)
   rw[zkw,HA.out] at hres
   have HRES:=hid hres;clear hres
   go_wp2_with fail
   refine HRES.out.mono ?_
   rintro e w4 ⟨rfl,hb4⟩
   have hB4:=hBr.out.trans (hb4.mono hBr.out.size)
   clear hb4
   go_wp2_with fail
   go_ret2
   exact⟨rfl,hB4⟩
  ·have hz0:(0:Int)<kb:=by omega
   have hb0:b≠0:=λe=>h0 (by rw[hkb.out,e,zaz];rfl)
   go_wp2_with fail
   refine(zmi _ (.slice p kb c) a b wr hva.out hvb.out (by omega) (by omega) (yS hb0)).mono ?_
   rintro e w4 ⟨v1,v2,rfl,hs1,hs2,hb4⟩
   have hB4:=hBr.out.trans (hb4.mono hBr.out.size)
   have hvb4:=hvb.out.below hb4
   obtain⟨p2,k2,c2,rfl,hk2⟩:=zbx hs2
   have HS2:=hid hs2;have HB4:=hid hB4;have HVB:=hid hvb4
   have HK2:=hid hk2
   have HB0:=hid hb0
   clear hs1 hs2 hb4 hB4 hvb4 hk2 hb0 hva hvb hBr
   go_wp2
   go_roundg (a%b)
   case measure=>rw[hk.out];exact zP _ (yS HB0.out)
   case rel=>exact⟨b,a%b,p2,k2,c2,rfl,rfl,HK2.out,lb,zO (zd6 (by decide) (Nat.le_of_lt (zP _ (yS HB0.out)))) lb,HVB.out,HS2.out,(zkx a b).trans hgc.out,HB4.out⟩
theorem zgm (x y:Int) (hx:digs x<=300) (hy:digs y<=300) (w:zA) (hw:Wd w):
 qJ 109 #[St (zE x),St (zE y)] w (.tuple #[St (zE (Int.gcd x y:Int)),.int .i64 0]):=by
 by_cases h:17<(zE x).length\/17<(zE y).length
 ·exact zxq x y hx hy h w hw
 ·exact zvk x y (by omega) (by omega) w hw
theorem zqa (x y q:Int) (hq:x=q*y) (hy0:0<y) (hx:(zE x).length<=17) (hy:(zE y).length<=17) (w:zA) (hw:Wd w):
 qJ 287 #[St (zE x),St (zE y)] w (.tuple #[St (zE q),St [48],.int .i64 0]):=by
 obtain⟨x1,x2⟩:=lt18 (zO hx (by omega))
 obtain⟨y1,y2⟩:=lt18 (zO hy (by omega))
 have hb:=λW=>zcb x y (zO (zbf (by omega)) (by omega)) (zO (zbf (by omega)) (by omega)) W
 have hs:=λW=>ze3 x y hx hy W
 have hqa:q.natAbs<=x.natAbs:=by rw[hq,yK];exact Nat.le_mul_of_pos_right _ (by omega)
 have hit:=λW hW=>zb3 q (by omega) (by omega) W hW
 have hiz:=λW hW=>zb3 0 (by omega) (by omega) W hW
 have hd:x.tdiv y=q:=by rw[hq];exact Int.mul_tdiv_cancel _ (by omega)
 have hm:x.tmod y=0:=by rw[hq];exact Int.mul_tmod_left _ _
 have w1:IntKind.i64.wrap (x.tdiv y)=q:=by rw[hd];exact zI _ (by omega)
 have w2:IntKind.i64.wrap (x.tmod y)=0:=by rw[hm];rfl
 rw[zb9] at hiz
 have hyn:(zE y==[48])=false:=by rw[beq_eq_false_iff_ne,<-zb9];exact λh=>by have:=zdo h;omega
 have hne:¬zE y=[48]:=by simpa using hyn
 have hy1:¬y=0:=by omega
 have HB:=hid hb;clear hb
 have HIT:=hid hit;clear hit
 have HIZ:=hid hiz;clear hiz
 have HS:=hid hs;
 have HQD:=hid hd;have HMD:=hid hm;clear hs hx hy hq hd hm hqa
 have HW:=hid hw;clear hw
 go_enter Tryz.func287,Tryz.ntmps287
 go_wp2_with fail
 refine(HB.out w).mono ?_
 rintro e w3 ⟨rfl,hw3⟩
 have hw3':=hw3.symm;subst hw3'
 go_wp2_with fail
 refine(HS.out w).mono ?_
 rintro e w4 ⟨rfl,hw4⟩
 have hw4':=hw4.symm;subst hw4'
 have hB2:qL w w:=zM _ _
 go_wp2_with fail
 (refine wp_region_quiet_lit (by kernel_rfl) (by kernel_rfl) (WQ.out ?_);(repeat(first|(apply WQ.read (by rfl);(focus(rintro W ⟨n,rfl⟩;go_simp;try with_reducible rfl));try simp only[zzQ])|(apply WQ.skip (by rfl);try simp only[zzQ])));refine WQ.nil ?_;rintro _ ⟨nq,rfl⟩)
 go_wp2_with fail
 have hB3:=zao hB2 nq
 refine(HIT.out (w.drewN nq) (HW.out.below hB3)).mono ?_
 rintro e w5 ⟨rfl,hb5⟩
 have hB5:=hB3.trans (hb5.mono hB3.size)
 clear hb5 hB3 hB2
 go_wp2_with fail
 refine(HIZ.out w5 (HW.out.below hB5)).mono ?_
 rintro e w6 ⟨rfl,hb6⟩
 have hB6:=hB5.trans (hb6.mono hB5.size)
 clear hb6 hB5
 go_wp2_with fail
 go_ret3
 exact⟨rfl,hB6⟩
theorem zr4 (x y q:Int) (hq:x=q*y) (hy0:0<y) (hx:digs x<=300) (hy:digs y<=300) (h:17<(zE x).length\/17<(zE y).length) (w:zA):
 qJ 287 #[St (zE x),St (zE y)] w (.tuple #[St (zE q),St [48],.int .i64 0]):=by
 have c1:=λW=>zcb x y hx hy W
 have c2:=λW=>zf5 x y h (zO (za7 x) (by omega)) (zO (za7 y) (by omega)) W
 have c3:=λW=>zcp x W (by omega)
 have c4:=λW=>zcp y W (by omega)
 have bx:=zc6 x 50 (by omega) hx
 have by':=zc6 y 50 (by omega) hy
 have c5:=λvx vy W h1 h2=>zmi vx vy x.natAbs y.natAbs W h1 h2 (by omega) (by omega) (by omega)
 obtain⟨hsq,hr0⟩:=ztx x y q hq hy0
 have hyf:decide (y<0)=false:=by simp;omega
 rw[hyf,Bool.bne_false] at hsq
 rw[hr0,zaz] at c5
 have hdq:digs q<=300:=by
  rw[za3 _ _ (by omega)] at hx⊢
  have hqa:q.natAbs<=x.natAbs:=by rw[hq,yK];exact Nat.le_mul_of_pos_right _ (by omega)
  omega
 have hmx:decide (x<0)=true->¬(zaa B6 (x.natAbs/y.natAbs)).length=0:=λhm h0=>by
  have h1:=(zbd (B:=B6) (by decide) _).1 (List.length_eq_zero_iff.1 h0)
  rw[h1] at hsq
  have:q=0:=by rw[<-hsq];cases decide (x<0)<;>simp[sgn]
  rw[this] at hq
  simp at hm;omega
 have c6:=λv W h1=>zgs (decide (x<0)) v (x.natAbs/y.natAbs) W h1 (by
  have:=zc6 q 50 (by omega) hdq
  rw[<-hsq,zge] at this;omega) (by rw[hsq];exact hdq)
 rw[hsq] at c6
 rw[hyf] at c4
 have hyn:(zE y==[48])=false:=by rw[beq_eq_false_iff_ne,<-zb9];exact λh=>by have:=zdo h;omega
 have hne:¬zE y=[48]:=by simpa using hyn
 have C1:=hid c1;have C2:=hid c2;have C3:=hid c3;have C4:=hid c4;have C5:=hid c5;have C6:=hid c6
 have HMX:=hid hmx
 clear c1 c2 c3 c4 c5 c6 hx hy h bx by' hq hy0 hsq hr0 hyf hdq hmx
 generalize zE x=u at*
 generalize zE y=v at*
 generalize zE q=t at*
 generalize decide (x<0)=mx at*
 go_enter Tryz.func287,Tryz.ntmps287
 go_wp2_with fail
 refine(C1.out w).mono ?_
 rintro e w1 ⟨rfl,hw1⟩
 have hw1':=hw1.symm;subst hw1'
 go_wp2_with fail
 refine(C2.out w).mono ?_
 rintro e w2 ⟨⟨a,b,rfl⟩,hw2⟩
 have hw2':=hw2.symm;subst hw2'
 go_wp2_with fail
 refine(C3.out w).mono ?_
 rintro e w3 ⟨vx,rfl,hsx,hb3⟩
 have H3:=hid (⟨hsx,hb3⟩:_/\_);clear hsx hb3
 go_wp2_with fail
 refine(C4.out w3).mono ?_
 rintro e w4 ⟨vy,rfl,hsy,hb4⟩
 have hsx:=H3.out.1.below hb4
 have hB4:=H3.out.2.trans (hb4.mono H3.out.2.size)
 clear hb4 H3
 obtain⟨px,kx,cx,rfl, -⟩:=zbx hsx
 obtain⟨py,ky,cy,rfl, -⟩:=zbx hsy
 obtain⟨w5,hw5⟩:∃w5,w5=(w4.alloc (.cells #[.bool mx,.slice px kx cx] 191)).alloc (.cells #[.bool false,.slice py ky cy] 191):=⟨_,rfl⟩
 have hb5:qL w4 w5:=by rw[hw5];exact((zM _ w4).alloc (zN _) _).alloc (by simp) _
 have a13:w5.heap[w4.heap.size]? =some (.cells #[.bool mx,.slice px kx cx] 191 (0,0)):=by
  rw[hw5];exact(Below.heap_alloc _ _ _ (by simp only[zH];omega)).trans (heap_alloc_new w4 _)
 have a14:w5.heap[w4.heap.size+1]? =some (.cells #[.bool false,.slice py ky cy] 191 (0,0)):=by
  rw[hw5]
  have:=heap_alloc_new (w4.alloc (.cells #[.bool mx,.slice px kx cx] 191)) (.cells #[.bool false,.slice py ky cy] 191)
  rwa [zH] at this
 have hz5:w5.heap.size=w4.heap.size+2:=by rw[hw5];simp
 have H5:=hid (⟨hsx.below hb5,hsy.below hb5,hB4.trans (hb5.mono hB4.size),a13,a14,hz5⟩:_/\_/\_/\_/\_/\_)
 have HW5:=hid hw5
 clear hsx hsy hB4 hb5 a13 a14 hz5 hw5
 go_wp2_with fail
 rw[<-HW5.out]
 refine(C5.out _ _ w5 H5.out.1 H5.out.2.1).mono ?_
 rintro e w6 ⟨v1,v2,rfl,hs1,hs2,hb6⟩
 obtain⟨p1,k1,cc1,rfl,hk1⟩:=zbx hs1
 obtain⟨p2,cc2,rfl, -⟩:=id hs2
 have a13:=(hb6.block w4.heap.size (by have:=H5.out.2.2.2.2.2;omega)).trans H5.out.2.2.2.1
 have a14:=(hb6.block (w4.heap.size+1) (by have:=H5.out.2.2.2.2.2;omega)).trans H5.out.2.2.2.2.1
 have n0:w6.cell? ⟨w4.heap.size,0,none⟩=some (.bool mx):=by simp[World.cell?,a13]
 have n1:w6.cell? ⟨w4.heap.size+1,0,none⟩=some (.bool false):=by simp[World.cell?,a14]
 obtain⟨w7,hw7⟩:∃w7,w7=(w6.alloc (.cells #[.bool mx,.slice p1 k1 cc1] 191)).alloc (.cells #[.bool false,.slice p2 0 cc2] 191):=⟨_,rfl⟩
 have hb7:qL w6 w7:=by rw[hw7];exact((zM _ w6).alloc (zN _) _).alloc (by simp) _
 have a17:w7.heap[w6.heap.size]? =some (.cells #[.bool mx,.slice p1 k1 cc1] 191 (0,0)):=by
  rw[hw7];exact(Below.heap_alloc _ _ _ (by simp only[zH];omega)).trans (heap_alloc_new w6 _)
 have a18:w7.heap[w6.heap.size+1]? =some (.cells #[.bool false,.slice p2 0 cc2] 191 (0,0)):=by
  rw[hw7]
  have:=heap_alloc_new (w6.alloc (.cells #[.bool mx,.slice p1 k1 cc1] 191)) (.cells #[.bool false,.slice p2 0 cc2] 191)
  rwa [zH] at this
 have hz7:w7.heap.size=w6.heap.size+2:=by rw[hw7];simp
 have hB7:qL w w7:=(H5.out.2.2.1.trans (hb6.mono H5.out.2.2.1.size)).trans (hb7.mono (zO H5.out.2.2.1.size hb6.size))
 have d0:w7.cell? ⟨w6.heap.size,0,none⟩=some (.bool mx):=by simp[World.cell?,a17]
 have d1:w7.cell? ⟨w6.heap.size,1,none⟩=some (.slice p1 k1 cc1):=by simp[World.cell?,a17]
 have H7:=hid (⟨hs1.below hb7,hB7,a18,hz7⟩:_/\_/\_/\_)
 have HW7:=hid hw7
 have hkk:mx=true->(0:Int)<k1:=λhm=>by have:=HMX.out hm;omega
 have HKK:=hid hkk
 clear hs1 hs2 hb6 hk1 a13 a14 hb7 a17 a18 hz7 hB7 hw7 hkk HMX H5 HW5 hyn hne
 cases mx
 ·go_wp2_with fail
  rw[<-HW7.out]
  refine(C6.out _ w7 H7.out.1).mono ?_
  rintro e w8 ⟨rfl,hb8⟩
  have a18:=(hb8.block (w6.heap.size+1) (by have:=H7.out.2.2.2;omega)).trans H7.out.2.2.1
  have g0:w8.cell? ⟨w6.heap.size+1,0,none⟩=some (.bool false):=by simp[World.cell?,a18]
  have g1:w8.cell? ⟨w6.heap.size+1,1,none⟩=some (.slice p2 0 cc2):=by simp[World.cell?,a18]
  have HB8:=hid (H7.out.2.1.trans (hb8.mono H7.out.2.1.size))
  clear a18 hb8
  go_wp2_with fail
  refine(zi1 false p2 cc2 w8).mono ?_
  rintro e w9 ⟨rfl,hb9⟩
  have HB9:=qT HB8 hb9
  clear hb9
  go_wp2_with fail
  go_ret3
  exact⟨rfl,HB9.out⟩
 ·have hk1:=HKK.out rfl
  have hkd:decide (0<k1)=true:=decide_eq_true (by omega)
  go_wp2_with fail
  rw[<-HW7.out]
  refine(C6.out _ w7 H7.out.1).mono ?_
  rintro e w8 ⟨rfl,hb8⟩
  have a18:=(hb8.block (w6.heap.size+1) (by have:=H7.out.2.2.2;omega)).trans H7.out.2.2.1
  have g0:w8.cell? ⟨w6.heap.size+1,0,none⟩=some (.bool false):=by simp[World.cell?,a18]
  have g1:w8.cell? ⟨w6.heap.size+1,1,none⟩=some (.slice p2 0 cc2):=by simp[World.cell?,a18]
  have HB8:=hid (H7.out.2.1.trans (hb8.mono H7.out.2.1.size))
  clear a18 hb8
  go_wp2_with fail
  refine(zi1 false p2 cc2 w8).mono ?_
  rintro e w9 ⟨rfl,hb9⟩
  have HB9:=qT HB8 hb9
  clear hb9
  go_wp2_with fail
  go_ret3
  exact⟨rfl,HB9.out⟩
theorem zcq (x y q:Int) (hq:x=q*y) (hy0:0<y) (hx:digs x<=300) (hy:digs y<=300) (w:zA) (hw:Wd w):
 qJ 287 #[St (zE x),St (zE y)] w (.tuple #[St (zE q),St [48],.int .i64 0]):=by
 by_cases h:17<(zE x).length\/17<(zE y).length
 ·exact zr4 x y q hq hy0 hx hy h w
 ·exact zqa x y q hq hy0 (by omega) (by omega) w hw
end Go.Proofs.YthfpmfdiamldoaaGreatDoor
