/- kingpostref01.read. -/
import Derived.Test.YtccijmidbdapaaaGreatDoorJ20
set_option maxRecDepth 100000
set_option maxHeartbeats 8000000
open Go renaming World → zA, Calls → zC
open Go.RowKit renaming Below → zB, intOf → zL
open Go.Lib renaming decDigits → zD, itoa → zE
open Go.Proofs.Tryz renaming prog → zF
open Go.Joins renaming cell_of_block → zJ
open Go.RowKit.Below renaming refl → zM
open Nat renaming le_refl → zN, le_trans → zO, mod_lt → zP, mod_eq_of_lt → zQ, lt_of_lt_of_le → zS, pow_le_pow_right → yF, pow_succ → yO, mul_comm → yP, pos_of_ne_zero → yS
open List renaming append_nil → yH
open Int renaming natAbs_mul → yK
namespace Go.Proofs.YtccijmidbdapaaaGreatDoor
section
open Go.RowKit Go.Shelf Lib Str Limb
attribute [local go_sem] Oper.semAt_some
theorem zvh (a:List UInt8):∀b:List UInt8,val (a++b)=val a*10^b.length+val b:=by
 intro b
 induction h:b.length generalizing b with
 |zero=>have:b=[]:=List.length_eq_zero_iff.1 h;subst this;simp[val]
 |succ k ih=>
  rcases Limb.snoc_cases b with rfl|⟨i,x,rfl⟩
  ·simp at h
  ·have hi:i.length=k:=by simpa using h
   rw[<-List.append_assoc,zde,ih i hi,zde,yO]
   rw[Nat.mul_add]
   have:10*(val a*10^k)=val a*(10^k*10):=by rw[Nat.mul_left_comm,yP 10]
   omega
def zc0 (n k:Nat):List Nat:=(List.range k).map λi=>n/B6^i%B6
theorem zmj (n k:Nat):zc0 n (k+1)=zc0 n k++[n/B6^k%B6]:=by simp[zc0,List.range_succ]
theorem zj6 (n k:Nat):(zc0 n k).length=k:=by simp[zc0]
theorem zr0 (n k:Nat):zal B6 (zc0 n k):=λx hx=>by
 obtain⟨i,_,rfl⟩:=List.mem_map.1 hx
 exact zP _ (by decide)
theorem zn1 (n:Nat):∀k,valL B6 (zc0 n k)=n%B6^k
 |0=>by simp[zc0,valL,Nat.mod_one]
 |k+1=>by
  rw[zmj,zcm,zn1 n k,zj6,yO,Nat.mod_mul]
theorem zmk {n k:Nat} (h:n<B6^k):zat (zc0 n k)=zaa B6 n:=by
 rw[zbu (B:=B6) (by decide) (zr0 n k),zn1,zQ h]
theorem zr1 (n e:Nat) (_:e<=(zD n).length):val ((zD n).take e)=n/10^((zD n).length-e):=by
 have h1:=zvh ((zD n).take e) ((zD n).drop e)
 rw[List.take_append_drop,zb2,List.length_drop] at h1
 have h2:=zjc ((zD n).drop e) (λc hc=>⟨(zan n c (List.mem_of_mem_drop hc)).1,(zan n c (List.mem_of_mem_drop hc)).2⟩)
 rw[List.length_drop] at h2
 generalize (zD n).length-e=k at*
 have hp:0<10^k:=Nat.pow_pos (by omega)
 conv=>rhs;rw[h1]
 rw[yP,Nat.mul_add_div hp,Nat.div_eq_of_lt h2,Nat.add_zero]
theorem zxm (n k x:Nat) (hk:6*k<(zD n).length) (h:val ((zD n).take ((zD n).length-6*k))=val ((zD n).take ((zD n).length-6*k-6))*10^((zD n).length-6*k-((zD n).length-6*k-6))+x)
 (hx:x<10^((zD n).length-6*k-((zD n).length-6*k-6))):x=n/B6^k%B6:=by
 have e1:=zr1 n ((zD n).length-6*k) (by omega)
 rw[show(zD n).length-((zD n).length-6*k)=6*k by omega,Nat.pow_mul] at e1
 have e2:n/B6^k=val ((zD n).take ((zD n).length-6*k)):=e1.symm
 rw[e2]
 rcases Nat.lt_or_ge ((zD n).length-6*k) 6 with h6|h6
 ·have h0:(zD n).length-6*k-6=0:=by omega
  rw[h0] at h hx
  rw[List.take_zero,z02,Nat.zero_mul,Nat.zero_add] at h
  have:10^((zD n).length-6*k-0)<=10^6:=yF (by omega) (by omega)
  rw[h]
  exact(zQ (show x<B6 from zS hx this)).symm
 ·rw[show(zD n).length-6*k-((zD n).length-6*k-6)=6 by omega] at h hx
  rw[h,yP]
  show x=(B6*_+x)%B6
  rw[Nat.mul_add_mod]
  exact(zQ (show x<B6 from hx)).symm
theorem zxn (n k:Nat) (h:(zD n).length<=6*k):n<B6^k:=by
 have h1:n<10^(zD n).length:=by
  have:=zjc (zD n) (λc hc=>zan n c hc)
  rwa [zb2] at this
 have h2:10^(zD n).length<=10^(6*k):=yF (by omega) h
 rw[Nat.pow_mul] at h2
 exact zS h1 h2
structure ReadS (w:zA) (neg:Bool) (n k:Nat) (v:Value) (W:zA):Prop where
 bel:qL w W
 rb:W.heap[w.heap.size]? =some (.cells #[.bool false,.slice none 0 0] 157 (0,0))
 xb:W.heap[w.heap.size+1]? =some (.cells #[.bool neg,v] 157 (0,0))
 own:W.ownsRow (w.heap.size+2) 3 1 v k ((zc0 n k).map I)
theorem ReadS.c1 {w:zA} {neg:Bool} {n k:Nat} {v:Value} {W:zA} (h:ReadS w neg n k v W):W.cell? ⟨w.heap.size+1,1,none⟩=some v/\W.frozen? ⟨w.heap.size+1,1,none⟩=false/\W.cell? ⟨w.heap.size+1,0,none⟩=some (.bool neg):=by
 refine⟨?_,?_,?_⟩<;>simp[World.cell?,World.frozen?,h.xb]
theorem ReadS.r {w:zA} {neg:Bool} {n k:Nat} {v:Value} {W:zA} (h:ReadS w neg n k v W):W.cell? ⟨w.heap.size,0,none⟩=some (.bool false)/\W.frozen? ⟨w.heap.size,0,none⟩=false/\W.cell? ⟨w.heap.size,1,none⟩=some (.slice none 0 0)/\W.frozen? ⟨w.heap.size,1,none⟩=false:=by
 refine⟨?_,?_,?_,?_⟩<;>simp[World.cell?,World.frozen?,h.rb]
theorem ReadS.step {w:zA} {neg:Bool} {n k:Nat} {v v':Value} {W W':zA} (h:ReadS w neg n k v W) (x:Nat) (hx:x=n/B6^k%B6)
 (hown:W'.ownsRow (w.heap.size+2) 3 1 v' (k+1) ((zc0 n k).map I++[.int .i64 x])) (hb:zB (w.heap.size+2) W W'):
 ReadS w neg n (k+1) v' (W'.setCell ⟨w.heap.size+1,1,none⟩ v'):=by
 refine⟨(h.bel.trans (hb.mono (by omega))).setCell (by show w.heap.size<=w.heap.size+1;omega) _,?_,?_,?_⟩
 ·exact(Below.heap_setCell _ ⟨w.heap.size+1,1,none⟩ _ w.heap.size (by show w.heap.size≠w.heap.size+1;omega)).trans ((hb.block _ (by omega)).trans h.rb)
 ·have:=(hb.block (w.heap.size+1) (by omega)).trans h.xb
  simp[World.setCell,Array.getElem?_modify,this]
 ·have:=zmh (p:=⟨w.heap.size+1,1,none⟩) hown (by show w.heap.size+1<w.heap.size+2;omega) v'
  rw[zmj,<-hx,List.map_append]
  exact this
theorem zcp (z:Int) (w:zA) (hl:digs z<=700):
 zC zF 99 #[St (zE z)] w λe w'=>∃v,e=.returned (.agg #[.bool (decide (z<0)),v])/\Sl w' v ((zaa B6 z.natAbs).map I)/\zB w.heap.size w w':=by
 obtain⟨i0,hi,hz0,hz1,hz2⟩:=info_parts zdv
 obtain⟨n,hn⟩:∃n,n=z.natAbs:=⟨_,rfl⟩
 have hl2:(zD n).length<=700:=by rw[hn];exact hl
 have hd:=zan n
 have hpos:1<=(zD n).length:=by have:=zbn (n:Int);unfold digs at this;simpa using this
 have CV:=hid (zxm n)
 have CE:=hid (zxn n)
 obtain⟨l,hll⟩:∃l,l=zD n:=⟨_,rfl⟩
 rw[<-hll] at hd hl2 hpos CV CE
 obtain⟨s,hs⟩:∃s:ByteArray,s=⟨l.toArray⟩:=⟨_,rfl⟩
 obtain⟨b1,b2⟩:=zdd l s hs
 have hst:∀k (hb:k<s.size),48<=(s[k]'hb).toNat/\(s[k]'hb).toNat<=57/\val (l.take (k+1))=10*val (l.take k)+((s[k]'hb).toNat-48):=λk hb=>by
  have hk:k<l.length:=by omega
  rw[b2 k hk hb,List.take_succ_eq_append_getElem hk,zde]
  exact⟨(hd _ (List.getElem_mem hk)).1,(hd _ (List.getElem_mem hk)).2,rfl⟩
 rw[<-b1] at CV CE
 generalize hvf:(λk=>val (l.take k))=vf at*
 have ST:=hid (show ∀k (hb:k<s.size),48<=(s[k]'hb).toNat/\(s[k]'hb).toNat<=57/\vf (k+1)=10*vf k+((s[k]'hb).toNat-48) by rw[<-hvf];exact hst)
 have CV2:=hid (show ∀k x,6*k<s.size->vf (s.size-6*k)=vf (s.size-6*k-6)*10^(s.size-6*k-(s.size-6*k-6))+x->x<10^(s.size-6*k-(s.size-6*k-6))->x=n/B6^k%B6 by rw[<-hvf];exact CV.out)
 have hs0:0<s.size:=by omega
 have hs7:s.size<=700:=by omega
 clear hst hvf CV
 have hhead:(0<=z/\zE z=l)\/(z<0/\zE z=45::l):=by
  rcases zbg z with⟨h,e⟩|⟨h,e⟩
  ·exact .inl ⟨h,by rw[e,hll,hn]⟩
  ·exact .inr ⟨h,by rw[e,hll,hn]⟩
 rcases hhead with⟨hzn,he⟩|⟨hzn,he⟩
 ·have hdec:decide (z<0)=false:=by rw[decide_eq_false_iff_not];omega
  rw[he,hdec,<-hn]
  show zC _ _ #[.string ⟨l.toArray⟩] _ _
  rw[<-hs]
  have h45:(((s[0]'hs0).toNat:Int)==45)=false:=by rw[beq_eq_false_iff_ne];have:=(ST.out 0 hs0).1;omega
  have hI:ReadS w false n 0 (.slice none 0 0) ((w.alloc (.cells #[.bool false,.slice none 0 0] 157)).alloc (.cells #[.bool false,.slice none 0 0] 157)):=by
   refine⟨((zM _ w).alloc (zN _) _).alloc (by simp) _,?_,?_,?_⟩
   ·exact(Below.heap_alloc _ _ _ (by simp)).trans (heap_alloc_new w _)
   ·have:=heap_alloc_new (w.alloc (.cells #[.bool false,.slice none 0 0] 157)) (.cells #[.bool false,.slice none 0 0] 157)
    rwa [World.size_alloc] at this
   ·exact World.ownsRow_nil _ _ _ _
  have HI:=hid hI
  clear hI b1 b2 hs hll hd hpos hl2 he hl hn hzn hdec
  go_enter Tryz.func99,Tryz.ntmps99
  go_wp2
  go_loopw [4] (λi wr=>∃(k:Nat) (v:Value),i=.int .i64 ((s.size:Int)-6*k)/\6*k<s.size+6/\ReadS w false n k v wr) (λi _=>(zL i+6).toNat)
  case atStart=>exact⟨0,_,by simp,by omega,HI.out⟩
  case round=>
   clear HI h45
   obtain⟨k,v,rfl,hk,hS⟩:=hrel
   obtain⟨c1,f1, -⟩:=hS.c1
   by_cases hlt:6*k<s.size
   ·obtain⟨e,he⟩:∃e,e=s.size-6*k:=⟨_,rfl⟩
    obtain⟨f,hf⟩:∃f,f=e-6:=⟨_,rfl⟩
    have hE:(s.size:Int)-6*k=(e:Int):=by omega
    rw[hE]
    have hm:max (0:Int) ((e:Int)-6)=(f:Int):=by omega
    have hef:e-f<=6:=by omega
    have hfe:f<=e:=by omega
    have hes:e<=s.size:=by omega
    have he0:0<e:=by omega
    have CVk:=CV2.out k
    rw[<-he,<-hf] at CVk
    have HCV:=hid CVk
    have HE:=hid hE
    have HS:=hid hS
    clear hE CVk hS hf c1 f1 he
    go_wp2
    go_loopw [5,6] (λa i wr'=>wr'=wr/\∃j x:Nat,f<=j/\j<=e/\i=.int .i64 j/\a=.int .i64 x/\vf j=vf f*10^(j-f)+x/\x<10^(j-f)) (λ_ i _=>e-(zL i).toNat)
    case atStart=>exact⟨rfl,f,0,zN _,hfe,rfl,rfl,by simp,by simp⟩
    case round=>
     obtain⟨hw',j,x,hj1,hj2,rfl,rfl,hv,hx⟩:=hrel
     subst hw'
     have hx6:x<1000000:=zS hx (yF (by omega) (by omega):10^(j-f)<=10^6)
     by_cases hje:j<e
     ·have hjs:j<s.size:=by omega
      obtain⟨d1',d2',d3⟩:=ST.out j hjs
      have HV:=hid (show vf (j+1)=vf f*10^(j+1-f)+(10*x+((s[j]'hjs).toNat-48))/\10*x+((s[j]'hjs).toNat-48)<10^(j+1-f) by
       rw[show j+1-f=(j-f)+1 by omega,yO,d3,hv]
       constructor
       ·rw[Nat.mul_add,<-Nat.mul_assoc,yP 10,Nat.mul_assoc,yP 10];omega
       ·omega)
      have d1:(48:Int)<=((s[j]'hjs).toNat:Int):=by omega
      have d2:((s[j]'hjs).toNat:Int)<=57:=by omega
      clear hv hx d3
      go_wp2
      go_roundw
      case rel=>exact⟨by first|rfl|trivial,j+1,10*x+((s[j]'hjs).toNat-48),by omega,by omega,by go_num,by show Value.int .i64 _=Value.int .i64 _;congr 1;omega,HV.out.1,HV.out.2⟩
      case measure=>simp[zL];omega
     ·obtain rfl:j=e:=by omega
      have hxc:=HCV.out x hlt hv hx
      have HX:=hid hxc
      obtain⟨c1,f1, -⟩:=HS.out.c1
      have hsz:w.heap.size+2<=wr.heap.size:=by
       have h1:=(Array.getElem?_eq_some_iff.1 HS.out.xb).1
       omega
      clear hv hx hxc
      go_wp2_with (at_builtin;refine wpList_append_own _ rfl _ _ 123 rfl (w.heap.size+2) 3 i0 (.int .i64 0) 1 8 Tryz.underlying123 hi hz0 hz1 hz2 rfl (by decide) _ _ _ rfl (HS.out.own.alloc _) ⟨wr.heap.size,0,none⟩ 1 1 [.int .i64 (x:Int)] rfl rfl (zep _ _ _) (zfn _) (by unfold maxLen;omega) (by omega) (by simp;omega) ?_)
      intro v' w1 hown' hgrow _
      obtain⟨vp',vm',vc',rfl⟩:=zg0 hown'
      have hb1:zB (w.heap.size+2) wr w1:=((zM (w.heap.size+2) wr).alloc hsz _).grown hgrow (by simp;omega) (λq e=>(HS.out.own.lt q e).1)
      have hxb:=(hb1.block (w.heap.size+1) (by omega)).trans HS.out.xb
      have k1:w1.cell? ⟨w.heap.size+1,1,none⟩=some v:=by simp[World.cell?,hxb]
      have k2:w1.frozen? ⟨w.heap.size+1,1,none⟩=false:=by simp[World.frozen?,hxb]
      have HN:=hid (HS.out.step x HX.out hown' hb1)
      clear hgrow hown' hb1 hxb c1 f1 hsz
      go_wp2
      go_roundw
      case rel=>exact⟨k+1,_,by have:=HE.out;show Value.int .i64 _=Value.int .i64 _;congr 1;omega,by omega,HN.out⟩
      case measure=>simp[zL];omega
   ·have hle:¬(0:Int)<(s.size:Int)-6*k:=by omega
    have hch:=CE.out k (by omega)
    obtain⟨vp,vm,vc,rfl⟩:=zg0 hS.own
    have hlen:=zj6 n k
    have hk2:k<=200:=by omega
    have hrr:=hS.r
    obtain⟨r0,fr0,r1,fr1⟩:=hrr
    obtain⟨-, -,c0⟩:=hS.c1
    have T:=hid (zeb vp vm vc (zc0 n k) wr (Sl.of_own hS.own) (by rw[hlen];omega))
    have hst:Sl wr (.slice vp (zat (zc0 n k)).length vc) ((zat (zc0 n k)).map I):=Sl.of_own (zh4 hS.own hlen)
    rw[zmk hch] at T hst
    have HST:=hid hst
    have HB:=hid hS.bel
    have hne:w.heap.size≠w.heap.size+1:=by omega
    have hne2:w.heap.size+1≠w.heap.size:=by omega
    clear hS hst hch hlen hlt hk hk2
    go_wp2_with fail
    refine T.out.mono ?_
    rintro e w9 ⟨rfl,hw9⟩
    have hw9':=hw9.symm;subst hw9'
    clear T hw9
    generalize hLL:(zaa B6 n).length=LL at*
    have d0:=(zau _ (b:=w.heap.size) (b':=w.heap.size+1) 0 1 (.slice vp LL vc) hne).trans r0
    have d1:=(zau _ (b:=w.heap.size) (b':=w.heap.size+1) 1 1 (.slice vp LL vc) hne).trans r1
    have e1:=(World.cell?_setCell_other _ _ _ (.bool false) (show(⟨w.heap.size,0,none⟩:Addr)≠⟨w.heap.size,1,none⟩ by simp)).trans d1
    have e0:=za9 (u:=.bool false) d0
    have g0:=((World.cell?_setCell_other _ _ _ (.slice vp LL vc) (show(⟨w.heap.size,1,none⟩:Addr)≠⟨w.heap.size,0,none⟩ by simp)).trans e0)
    have g1:=(za9 (u:=.slice vp LL vc) e1)
    have hs1:=HST.out.set c1 (λx=>by simp[I]) (.slice vp LL vc)
    have hs2:=hs1.set d0 (λx=>by simp[I]) (.bool false)
    have hs3:=hid (hs2.set e1 (λx=>by simp[I]) (.slice vp LL vc))
    have hB3:=hid (((HB.out.setCell (p:=⟨w.heap.size+1,1,none⟩) (by show w.heap.size<=w.heap.size+1;omega) (.slice vp LL vc)).setCell (p:=⟨w.heap.size,0,none⟩) (zN _) (.bool false)).setCell (p:=⟨w.heap.size,1,none⟩) (zN _) (.slice vp LL vc))
    have G:=hid (⟨g0,g1⟩:_/\_)
    clear hs1 hs2 d0 d1 e0 e1 g0 g1
    go_wp2
    have g0:=G.out.1;have g1:=G.out.2
    exact bodyPost_ret (v:=.agg #[.bool false,.slice vp LL vc]) (by simp[results,Tryz.results99,go_sem,g0,g1]) rfl ⟨_,rfl,hs3.out,hB3.out⟩
 ·have hdec:decide (z<0)=true:=by rw[decide_eq_true_iff];exact hzn
  rw[he,hdec,<-hn]
  obtain⟨t,ht⟩:∃t:ByteArray,t=⟨(45::l).toArray⟩:=⟨_,rfl⟩
  obtain⟨t1,t2⟩:=zdd (45::l) t ht
  have hts:t.size=s.size+1:=by rw[t1,b1];simp
  have ht0:0<t.size:=by omega
  have htb:t.size<=701:=by omega
  have hx:t.extract 1 t.size=s:=by rw[ht,zev,hs];rfl
  show zC _ _ #[.string ⟨(45::l).toArray⟩] _ _
  rw[<-ht]
  have h45:(((t[0]'ht0).toNat:Int)==45)=true:=by rw[t2 0 (by simp) ht0];rfl
  have hI:ReadS w true n 0 (.slice none 0 0) ((w.alloc (.cells #[.bool false,.slice none 0 0] 157)).alloc (.cells #[.bool true,.slice none 0 0] 157)):=by
   refine⟨((zM _ w).alloc (zN _) _).alloc (by simp) _,?_,?_,?_⟩
   ·exact(Below.heap_alloc _ _ _ (by simp)).trans (heap_alloc_new w _)
   ·have:=heap_alloc_new (w.alloc (.cells #[.bool false,.slice none 0 0] 157)) (.cells #[.bool true,.slice none 0 0] 157)
    rwa [World.size_alloc] at this
   ·exact World.ownsRow_nil _ _ _ _
  have HI:=hid hI
  clear hI b1 b2 hs hll hd hpos hl2 he hl hn hzn hdec ht t1 t2 hts
  go_enter Tryz.func99,Tryz.ntmps99
  go_wp2
  clear hx h45
  go_loopw [4] (λi wr=>∃(k:Nat) (v:Value),i=.int .i64 ((s.size:Int)-6*k)/\6*k<s.size+6/\ReadS w true n k v wr) (λi _=>(zL i+6).toNat)
  case atStart=>exact⟨0,_,by simp,by omega,HI.out⟩
  case round=>
   clear HI
   obtain⟨k,v,rfl,hk,hS⟩:=hrel
   obtain⟨c1,f1, -⟩:=hS.c1
   by_cases hlt:6*k<s.size
   ·obtain⟨e,he⟩:∃e,e=s.size-6*k:=⟨_,rfl⟩
    obtain⟨f,hf⟩:∃f,f=e-6:=⟨_,rfl⟩
    have hE:(s.size:Int)-6*k=(e:Int):=by omega
    rw[hE]
    have hm:max (0:Int) ((e:Int)-6)=(f:Int):=by omega
    have hef:e-f<=6:=by omega
    have hfe:f<=e:=by omega
    have hes:e<=s.size:=by omega
    have he0:0<e:=by omega
    have CVk:=CV2.out k
    rw[<-he,<-hf] at CVk
    have HCV:=hid CVk
    have HE:=hid hE
    have HS:=hid hS
    clear hE CVk hS hf c1 f1 he
    go_wp2
    go_loopw [5,6] (λa i wr'=>wr'=wr/\∃j x:Nat,f<=j/\j<=e/\i=.int .i64 j/\a=.int .i64 x/\vf j=vf f*10^(j-f)+x/\x<10^(j-f)) (λ_ i _=>e-(zL i).toNat)
    case atStart=>exact⟨rfl,f,0,zN _,hfe,rfl,rfl,by simp,by simp⟩
    case round=>
     obtain⟨hw',j,x,hj1,hj2,rfl,rfl,hv,hx⟩:=hrel
     subst hw'
     have hx6:x<1000000:=zS hx (yF (by omega) (by omega):10^(j-f)<=10^6)
     by_cases hje:j<e
     ·have hjs:j<s.size:=by omega
      obtain⟨d1',d2',d3⟩:=ST.out j hjs
      have HV:=hid (show vf (j+1)=vf f*10^(j+1-f)+(10*x+((s[j]'hjs).toNat-48))/\10*x+((s[j]'hjs).toNat-48)<10^(j+1-f) by
       rw[show j+1-f=(j-f)+1 by omega,yO,d3,hv]
       constructor
       ·rw[Nat.mul_add,<-Nat.mul_assoc,yP 10,Nat.mul_assoc,yP 10];omega
       ·omega)
      have d1:(48:Int)<=((s[j]'hjs).toNat:Int):=by omega
      have d2:((s[j]'hjs).toNat:Int)<=57:=by omega
      clear hv hx d3
      go_wp2
      go_roundw
      case rel=>exact⟨by first|rfl|trivial,j+1,10*x+((s[j]'hjs).toNat-48),by omega,by omega,by go_num,by show Value.int .i64 _=Value.int .i64 _;congr 1;omega,HV.out.1,HV.out.2⟩
      case measure=>simp[zL];omega
     ·obtain rfl:j=e:=by omega
      have hxc:=HCV.out x hlt hv hx
      have HX:=hid hxc
      obtain⟨c1,f1, -⟩:=HS.out.c1
      have hsz:w.heap.size+2<=wr.heap.size:=by
       have h1:=(Array.getElem?_eq_some_iff.1 HS.out.xb).1
       omega
      clear hv hx hxc
      go_wp2_with (at_builtin;refine wpList_append_own _ rfl _ _ 123 rfl (w.heap.size+2) 3 i0 (.int .i64 0) 1 8 Tryz.underlying123 hi hz0 hz1 hz2 rfl (by decide) _ _ _ rfl (HS.out.own.alloc _) ⟨wr.heap.size,0,none⟩ 1 1 [.int .i64 (x:Int)] rfl rfl (zep _ _ _) (zfn _) (by unfold maxLen;omega) (by omega) (by simp;omega) ?_)
      intro v' w1 hown' hgrow _
      obtain⟨vp',vm',vc',rfl⟩:=zg0 hown'
      have hb1:zB (w.heap.size+2) wr w1:=((zM (w.heap.size+2) wr).alloc hsz _).grown hgrow (by simp;omega) (λq e=>(HS.out.own.lt q e).1)
      have hxb:=(hb1.block (w.heap.size+1) (by omega)).trans HS.out.xb
      have k1:w1.cell? ⟨w.heap.size+1,1,none⟩=some v:=by simp[World.cell?,hxb]
      have k2:w1.frozen? ⟨w.heap.size+1,1,none⟩=false:=by simp[World.frozen?,hxb]
      have HN:=hid (HS.out.step x HX.out hown' hb1)
      clear hgrow hown' hb1 hxb c1 f1 hsz
      go_wp2
      go_roundw
      case rel=>exact⟨k+1,_,by have:=HE.out;show Value.int .i64 _=Value.int .i64 _;congr 1;omega,by omega,HN.out⟩
      case measure=>simp[zL];omega
   ·have hle:¬(0:Int)<(s.size:Int)-6*k:=by omega
    have hch:=CE.out k (by omega)
    obtain⟨vp,vm,vc,rfl⟩:=zg0 hS.own
    have hlen:=zj6 n k
    have hk2:k<=200:=by omega
    have hrr:=hS.r
    obtain⟨r0,fr0,r1,fr1⟩:=hrr
    obtain⟨-, -,c0⟩:=hS.c1
    have T:=hid (zeb vp vm vc (zc0 n k) wr (Sl.of_own hS.own) (by rw[hlen];omega))
    have hst:Sl wr (.slice vp (zat (zc0 n k)).length vc) ((zat (zc0 n k)).map I):=Sl.of_own (zh4 hS.own hlen)
    rw[zmk hch] at T hst
    have HST:=hid hst
    have HB:=hid hS.bel
    have hne:w.heap.size≠w.heap.size+1:=by omega
    have hne2:w.heap.size+1≠w.heap.size:=by omega
    clear hS hst hch hlen hlt hk hk2
    go_wp2_with fail
    refine T.out.mono ?_
    rintro e w9 ⟨rfl,hw9⟩
    have hw9':=hw9.symm;subst hw9'
    clear T hw9
    generalize hLL:(zaa B6 n).length=LL at*
    have d0:=(zau _ (b:=w.heap.size) (b':=w.heap.size+1) 0 1 (.slice vp LL vc) hne).trans r0
    have d1:=(zau _ (b:=w.heap.size) (b':=w.heap.size+1) 1 1 (.slice vp LL vc) hne).trans r1
    have e1:=(World.cell?_setCell_other _ _ _ (.bool true) (show(⟨w.heap.size,0,none⟩:Addr)≠⟨w.heap.size,1,none⟩ by simp)).trans d1
    have e0:=za9 (u:=.bool true) d0
    have g0:=((World.cell?_setCell_other _ _ _ (.slice vp LL vc) (show(⟨w.heap.size,1,none⟩:Addr)≠⟨w.heap.size,0,none⟩ by simp)).trans e0)
    have g1:=(za9 (u:=.slice vp LL vc) e1)
    have hs1:=HST.out.set c1 (λx=>by simp[I]) (.slice vp LL vc)
    have hs2:=hs1.set d0 (λx=>by simp[I]) (.bool true)
    have hs3:=hid (hs2.set e1 (λx=>by simp[I]) (.slice vp LL vc))
    have hB3:=hid (((HB.out.setCell (p:=⟨w.heap.size+1,1,none⟩) (by show w.heap.size<=w.heap.size+1;omega) (.slice vp LL vc)).setCell (p:=⟨w.heap.size,0,none⟩) (zN _) (.bool true)).setCell (p:=⟨w.heap.size,1,none⟩) (zN _) (.slice vp LL vc))
    have G:=hid (⟨g0,g1⟩:_/\_)
    clear hs1 hs2 d0 d1 e0 e1 g0 g1
    go_wp2
    have g0:=G.out.1;have g1:=G.out.2
    exact bodyPost_ret (v:=.agg #[.bool true,.slice vp LL vc]) (by simp[results,Tryz.results99,go_sem,g0,g1]) rfl ⟨_,rfl,hs3.out,hB3.out⟩
theorem zi1 (m:Bool) (p:Option Addr) (c:Nat) (w:zA):
 qJ 101 #[.agg #[.bool m,.slice p 0 c]] w (.string ⟨#[48]⟩):=by
 have hb1:qL w (w.alloc (.cells #[.bool m,.slice p 0 c] 157)):=(zM _ w).alloc (zN _) _
 have HB:=hid hb1;clear hb1
 go_enter Tryz.func101,Tryz.ntmps101
 go_wp2
 go_ret
 exact⟨rfl,HB.out⟩
theorem zn2 (m:Bool) (vx:Value) (n:Nat) (w:zA) (hx:Sl w vx ((zaa B6 n).map I)) (lx:(zaa B6 n).length<=200):
 qJ 101 #[.agg #[.bool m,vx]] w (St (zE (sgn m n))):=by
 rcases Nat.eq_zero_or_pos n with rfl|h
 ·obtain⟨p,c,rfl, -⟩:=hx
  rw[zaz]
  have e:zE (sgn m 0)=[48]:=by rw[show sgn m 0=((0:Nat):Int) by cases m<;>simp[sgn],Str.zad];decide+kernel
  rw[e]
  exact zi1 m p c w
 ·exact zvd m vx n h w hx lx
theorem zc6 (z:Int) (k:Nat) (hk:0<k) (h:digs z<=6*k):(zaa B6 z.natAbs).length<=k:=by
 apply zfv (B:=B6) (by decide)
 have:=(za3 z (6*k) (by omega)).1 h
 rwa [Nat.pow_mul] at this
theorem zvk (x y:Int) (hx:(zE x).length<=17) (hy:(zE y).length<=17) (w:zA) (hw:Wd w):
 qJ 55 #[St (zE x),St (zE y)] w (.tuple #[St (zE (Int.gcd x y:Int)),.int .i64 0]):=by
 obtain⟨x1,x2⟩:=lt18 (zO hx (by omega))
 obtain⟨y1,y2⟩:=lt18 (zO hy (by omega))
 have hb:=λW=>zcb x y (zO (zbf (by omega)) (by omega)) (zO (zbf (by omega)) (by omega)) W
 have hs:=λW=>ze3 x y hx hy W
 have HB:=hid hb;clear hb
 have HS:=hid hs;clear hs hx hy
 have HW:=hid hw;clear hw
 obtain⟨g,hg⟩:∃g,g=Int.gcd x y:=⟨_,rfl⟩
 rw[<-hg]
 have HG:=hid hg;clear hg
 go_enter Tryz.func55,Tryz.ntmps55
 go_wp2_with fail
 refine(HB.out w).mono ?_
 rintro e w1 ⟨rfl,hw1⟩
 have hw1':=hw1.symm;subst hw1'
 go_wp2_with fail
 refine(HS.out w).mono ?_
 rintro e w2 ⟨rfl,hw2⟩
 have hw2':=hw2.symm;subst hw2'
 have hB2:qL w w:=zM _ _
 go_wp2_with fail
 go_loopw [7,8] (λa b wr=>∃m n:Int,a=.int .i64 m/\b=.int .i64 n/\Hid (Int.gcd m n=g)/\(-1000000000000000000<m/\m<1000000000000000000)/\(-1000000000000000000<n/\n<1000000000000000000)/\Hid (qL w wr))
  (λ_ b _=>(zL b).natAbs)
 case atStart=>exact⟨x,y,rfl,rfl,HG.out.symm,⟨x1,x2⟩,⟨y1,y2⟩,hB2⟩
 case round=>
  clear x1 x2 y1 y2 hB2
  obtain⟨m,n,rfl,rfl,hgm,⟨m1,m2⟩,⟨n1,n2⟩,hBr⟩:=hrel
  by_cases h0:n=0
  ·subst h0
   have hgm':Int.gcd m 0=g:=hgm.out
   rw[Int.gcd_zero_right] at hgm'
   have hmx:max m (-m)=(g:Int):=by omega
   have HM:=hid hgm';clear hgm hgm'
   have hg1:(g:Int)<=1000000000000000000:=by omega
   have hneg:IntKind.i64.wrap (-m)= -m:=IntWalk.i64_in _ (by omega)
   go_wp2_with fail
   refine(zb3 (g:Int) (by omega) (by omega) wr (HW.out.below hBr.out)).mono ?_
   rintro e w3 ⟨rfl,hb3⟩
   have hB3:=hBr.out.trans (hb3.mono hBr.out.size)
   clear hb3
   go_wp2_with fail
   go_ret2
   exact⟨rfl,hB3⟩
  ·have hn0:(n !=0)=true:=by simpa using h0
   have ht1:(m.tmod n).natAbs<n.natAbs:=by rw[Int.natAbs_tmod];exact zP _ (by omega)
   obtain⟨t,ht⟩:∃t,t=m.tmod n:=⟨_,rfl⟩
   have hgt:=zmt m n
   rw[<-ht] at ht1 hgt
   have hwr:IntKind.i64.wrap (m.tmod n)=t:=by rw[<-ht];exact IntWalk.i64_in _ (by omega)
   have HGT:=hid hgt;have HT:=hid ht;clear hgt ht hwr
   go_wp2
   (refine wp_region_quiet_lit (by kernel_rfl) (by kernel_rfl) (WQ.out ?_);(repeat(first|(apply WQ.read (by rfl);(focus(rintro W ⟨n,rfl⟩;go_simp;try with_reducible rfl));try simp only[zzQ])|(apply WQ.skip (by rfl);try simp only[zzQ])));refine WQ.nil ?_;rintro _ ⟨nq,rfl⟩)
   go_wp2
   go_roundw
   case rel=>exact⟨n,t,rfl,by rw[HT.out],HGT.out.trans hgm.out,⟨n1,n2⟩,by omega,zao hBr.out _⟩
   case measure=>show(m.tmod n).natAbs<n.natAbs;rw[<-HT.out];exact ht1
theorem zm2 (b:Bool) (p:Option Addr) (k c:Nat) (W:zA):(Instr.field 157 (.agg #[.bool b,.slice p k c]) 1).run zF W=.ok (.slice p k c) W:=by kernel_rfl
theorem zxq (x y:Int) (hx:digs x<=300) (hy:digs y<=300) (h:17<(zE x).length\/17<(zE y).length) (w:zA) (hw:Wd w):
 qJ 55 #[St (zE x),St (zE y)] w (.tuple #[St (zE (Int.gcd x y:Int)),.int .i64 0]):=by
 have hb:=λW=>zcb x y hx hy W
 have hs:=λW=>zf5 x y h (zO (za7 x) (by omega)) (zO (za7 y) (by omega)) W
 have r1:=λW=>zcp x W (by omega)
 have r2:=λW=>zcp y W (by omega)
 have l1:=zO (zc6 x 50 (by omega) hx) (show 50<=100 by omega)
 have l2:=zO (zc6 y 50 (by omega) hy) (show 50<=100 by omega)
 have hgd:=zq4 x y hx hy
 have HB:=hid hb;clear hb
 have HS:=hid hs;clear hs hx hy h
 have HW:=hid hw;clear hw
 have R1:=hid r1;have R2:=hid r2;clear r1 r2
 obtain⟨g,hg⟩:∃g,g=Int.gcd x y:=⟨_,rfl⟩
 rw[<-hg] at hgd⊢
 have HG:=hid hg;clear hg
 have hfd:=zm2
 go_enter Tryz.func55,Tryz.ntmps55
 go_wp2_with fail
 refine(HB.out w).mono ?_
 rintro e w1 ⟨rfl,hw1⟩
 have hw1':=hw1.symm;subst hw1'
 go_wp2_with fail
 refine(HS.out w).mono ?_
 rintro e w2 ⟨⟨za,zb,rfl⟩,hw2⟩
 have hw2':=hw2.symm;subst hw2'
 go_wp2_with fail
 refine(R1.out w).mono ?_
 rintro e w2 ⟨vx,rfl,hvx,hb2⟩
 have hB2:=hb2
 clear hb2
 obtain⟨px,kx,cx,rfl, -⟩:=zbx hvx
 have HVX:=hid hvx;clear hvx
 go_wp2_with fail
 refine(R2.out w2).mono ?_
 rintro e w3 ⟨vy,rfl,hvy,hb3⟩
 have hvx:=HVX.out.below hb3
 have hB3:=hB2.trans (hb3.mono hB2.size)
 clear hb3 hB2 HVX
 obtain⟨py,ky,cy,rfl, -⟩:=zbx hvy
 have HVX:=hid hvx;have HVY:=hid hvy;clear hvx hvy
 go_wp2
 go_loopg [10,11] y.natAbs (λk va vb wr=>∃a b p kb c,vb=.slice p kb c/\Hid (k=b)/\Hid (kb=(zaa B6 b).length)/\(zaa B6 a).length<=100/\(zaa B6 b).length<=100/\Hid (Sl wr va ((zaa B6 a).map I))/\Hid (Sl wr vb ((zaa B6 b).map I))/\Hid (Nat.gcd a b=g)/\Hid (qL w wr))
 case atStart=>
  obtain⟨p,k,c,e,hk⟩:=zbx HVY.out
  cases e
  exact⟨x.natAbs,y.natAbs,py,ky,cy,rfl,rfl,hk,l1,l2,HVX.out,HVY.out,HG.out.symm,hB3⟩
 case round=>
  clear HVX HVY hB3
  obtain⟨a,b,p,kb,c,rfl,hk,hkb,la,lb,hva,hvb,hgc,hBr⟩:=hrel
  by_cases h0:kb=0
  ·have hb0:b=0:=(zbd (B:=B6) (by decide) b).1 (List.length_eq_zero_iff.1 (by rw[<-hkb.out];exact h0))
   have hga:a=g:=by have:=hgc.out;rw[hb0,Nat.gcd_zero_right] at this;exact this
   have hz0:¬(0:Int)<kb:=by omega
   have HA:=hid hga;clear hga
   have HB0:=hid hb0;clear hb0
   have HK0:=hid h0;clear h0
   obtain⟨p1,k1,c1,rfl, -⟩:=zbx hva.out
   have hres:=zn2 false _ a wr hva.out (by omega)
   rw[zkw,HA.out] at hres
   have HRES:=hid hres;clear hres
   go_wp2_with fail
   refine HRES.out.mono ?_
   rintro e w4 ⟨rfl,hb4⟩
   have hB4:=hBr.out.trans (hb4.mono hBr.out.size)
   clear hb4
   go_wp2_with fail
   go_ret2
   exact⟨rfl,hB4⟩
  ·have hz0:(0:Int)<kb:=by omega
   have hb0:b≠0:=λe=>h0 (by rw[hkb.out,e,zaz];rfl)
   go_wp2_with fail
   refine(zmi _ (.slice p kb c) a b wr hva.out hvb.out (by omega) (by omega) (yS hb0)).mono ?_
   rintro e w4 ⟨v1,v2,rfl,hs1,hs2,hb4⟩
   have hB4:=hBr.out.trans (hb4.mono hBr.out.size)
   have hvb4:=hvb.out.below hb4
   obtain⟨p2,k2,c2,rfl,hk2⟩:=zbx hs2
   have HS2:=hid hs2;have HB4:=hid hB4;have HVB:=hid hvb4
   have HK2:=hid hk2
   have HB0:=hid hb0
   clear hs1 hs2 hb4 hB4 hvb4 hk2 hb0 hva hvb hBr
   go_wp2
   go_roundg (a%b)
   case measure=>rw[hk.out];exact zP _ (yS HB0.out)
   case rel=>exact⟨b,a%b,p2,k2,c2,rfl,rfl,HK2.out,lb,zO (zd6 (by decide) (Nat.le_of_lt (zP _ (yS HB0.out)))) lb,HVB.out,HS2.out,(zkx a b).trans hgc.out,HB4.out⟩
theorem zgm (x y:Int) (hx:digs x<=300) (hy:digs y<=300) (w:zA) (hw:Wd w):
 qJ 55 #[St (zE x),St (zE y)] w (.tuple #[St (zE (Int.gcd x y:Int)),.int .i64 0]):=by
 by_cases h:17<(zE x).length\/17<(zE y).length
 ·exact zxq x y hx hy h w hw
 ·exact zvk x y (by omega) (by omega) w hw
theorem zr5 (n:Nat) (t:List UInt8):(zD n++47::t).takeWhile (· !=47)=zD n/\((zD n++47::t).dropWhile (· !=47)).tail=t:=by
 have h:∀c∈zD n,(c !=47)=true:=λc hc=>by
  have:=zan n c hc
  simp;intro e;subst e;simp at this
 constructor
 ·rw[List.takeWhile_append_of_pos h];simp
 ·rw[List.dropWhile_append_of_pos h];simp
theorem zpg (n:Nat):(zD n).takeWhile (· !=47)=zD n/\((zD n).dropWhile (· !=47)).tail=[]:=by
 have h:∀c∈zD n,(c !=47)=true:=λc hc=>by
  have:=zan n c hc
  simp;intro e;subst e;simp at this
 constructor
 ·have:=List.takeWhile_append_of_pos (p:=λx:UInt8=>x !=47) (l₁:=zD n) (l₂:=[]) h
  simpa using this
 ·have:=List.dropWhile_append_of_pos (p:=λx:UInt8=>x !=47) (l₁:=zD n) (l₂:=[]) h
  rw[yH] at this
  rw[this];rfl
def denS (q:Rat):List UInt8:=if q.den=1 then[] else zD q.den
theorem zph (q:Rat):upS (numS q)=zD q.num.natAbs/\dnS (numS q)=denS q/\((numS q).head? =some 45↔q.num<0)/\((47:UInt8)∈bare (numS q)↔q.den≠1):=by
 have hb:bare (numS q)=zD q.num.natAbs++(if q.den=1 then[] else 47::zD q.den):=zk1 _ _
 unfold upS dnS denS
 rw[hb]
 refine⟨?_,?_,zk2 _ _,?_⟩
 ·by_cases h:q.den=1
  ·rw[if_pos h,yH];exact(zpg _).1
  ·rw[if_neg h];exact(zr5 _ _).1
 ·by_cases h:q.den=1
  ·rw[if_pos h,if_pos h,yH];exact(zpg _).2
  ·rw[if_neg h,if_neg h];exact(zr5 _ _).2
 ·by_cases h:q.den=1
  ·rw[if_pos h,yH]
   exact⟨λk=>absurd k (zdz _),λk=>absurd h k⟩
  ·rw[if_neg h]
   exact⟨λ_=>h,λ_=>by simp⟩
theorem ybf (x u v:ByteArray) (m sl b1 b2 z1 z2 z3:Bool) (hz:(300:Int)<u.size\/(¬(300:Int)<u.size/\(300:Int)<v.size))
 (e1:(v.toList==[48])=z1) (e2:(v.toList==[49])=z2) (e3:(u.toList==[48])=z3)
 (SP:Hid (∀W:zA,qJ 51 #[.string x] W (.tuple #[.bool m,.string u,.string v,.bool sl])))
 (D1:Hid (∀W:zA,zC zF 52 #[.string u] W λe w'=>e=.returned (.bool b1)/\w'=W))
 (D2:Hid (∀W:zA,zC zF 52 #[.string v] W λe w'=>e=.returned (.bool b2)/\w'=W))
 (w:zA):
 zC zF 18 #[.string x] w λe w'=>∃r:Int,e=.returned (.int .i64 r)/\r≠0/\zB w.heap.size w w':=by
 go_enter Tryz.func18,Tryz.ntmps18
 go_wp2_with fail
 refine(SP.out w).mono ?_
 rintro e w1 ⟨rfl,hB⟩
 go_wp2_with fail
 refine(D1.out w1).mono ?_
 rintro e w2 ⟨rfl,hw⟩
 have hw2:=hw.symm;subst hw2;clear hw
 cases b1
 ·go_wp2_with fail
  all_goals first|exact(zzU ‹_›).elim|skip
  go_ret
  exact⟨11,rfl,by decide,hB⟩
 ·cases sl
  ·cases m
   ·rcases hz with h|⟨h,h'⟩
    all_goals
     go_wp2_with fail
     all_goals first|exact(zzU ‹_›).elim|skip
     go_ret
     exact⟨4,rfl,by decide,hB⟩
   ·cases z3
    ·rcases hz with h|⟨h,h'⟩
     all_goals
      go_wp2_with fail
      all_goals first|exact(zzU ‹_›).elim|skip
      go_ret
      exact⟨4,rfl,by decide,hB⟩
    ·go_wp2_with fail
     all_goals first|exact(zzU ‹_›).elim|skip
     go_ret
     exact⟨11,rfl,by decide,hB⟩
  ·go_wp2_with fail
   all_goals first|exact(zzU ‹_›).elim|skip
   refine(D2.out _).mono ?_
   rintro e w2 ⟨rfl,hw⟩
   have hw2:=hw.symm;subst hw2;clear hw
   cases b2
   ·go_wp2_with fail
    all_goals first|exact(zzU ‹_›).elim|skip
    go_ret
    exact⟨11,rfl,by decide,hB⟩
   ·cases z1<;>cases z2<;>cases m<;>cases z3
    all_goals
     rcases hz with h|⟨h,h'⟩
     all_goals
      go_wp2_with fail
      all_goals first|exact(zzU ‹_›).elim|skip
      go_ret
      first|exact⟨4,rfl,by decide,hB⟩|exact⟨11,rfl,by decide,hB⟩
theorem z97 {q:Rat}:okQ q↔(upS (numS q)).length<=300/\(dnS (numS q)).length<=300:=by
 obtain⟨h1,h2,_,_⟩:=zph q
 rw[h1,h2]
 unfold okQ denS digs
 by_cases c:q.den=1
 ·rw[if_pos c,c,(z15 1).2 rfl];simp
 ·rw[if_neg c]
theorem zuj (l:List UInt8) (hl:l.length<=1000) (w:zA) (hw:Wd w):
 zC zF 18 #[St l] w λe w'=>∃r:Int,e=.returned (.int .i64 r)/\(r=0↔∃q,l=numS q/\okQ q)/\zB w.heap.size w w':=by
 classical
 have sz:∀k:List UInt8,(⟨k.toArray⟩:ByteArray).size=k.length:=λk=>by show k.toArray.size=_;simp
 have lb:(bare l).length<=1000:=by
  have h2:(bare l).length<=l.length:=by unfold bare;split<;>simp
  omega
 have lu:(upS l).length<=1000:=zO (List.takeWhile_sublist _).length_le lb
 have ld:(dnS l).length<=1000:=by
  have h1:((bare l).dropWhile (· !=47)).length<=(bare l).length:=(List.dropWhile_sublist _).length_le
  have h3:(dnS l).length=((bare l).dropWhile (· !=47)).length-1:=by unfold dnS;rw[List.length_tail]
  omega
 have hd:∀k:List UInt8,k.length<=1000->∀W,zC zF 52 #[.string ⟨k.toArray⟩] W (λe w'=>e=.returned (.bool (decide (zds k)))/\w'=W):=λk hk W=>by
  refine(zme k (by omega) W).mono ?_
  rintro e w' ⟨b,rfl,h,rfl⟩
  refine⟨?_,rfl⟩
  congr 2
  cases b
  ·rw[eq_comm,decide_eq_false_iff_not];intro h';exact absurd (h.2 h') (by simp)
  ·rw[eq_comm,decide_eq_true_iff];exact h.1 rfl
 have hok:(∃q,l=numS q/\okQ q)↔okS l/\(upS l).length<=300/\(dnS l).length<=300:=by
  rw[zlq]
  constructor
  ·rintro⟨q,rfl,h⟩;exact⟨⟨q,rfl⟩,z97.1 h⟩
  ·rintro⟨⟨q,rfl⟩,h⟩;exact⟨q,rfl,z97.2 h⟩
 by_cases hL:(upS l).length<=300/\(dnS l).length<=300
 ·obtain⟨hu,hv⟩:=hL
  have e:(∃q,l=numS q/\okQ q)↔okS l:=by rw[hok];exact⟨λh=>h.1,λh=>⟨h,hu,hv⟩⟩
  simp only[e]
  refine ztd ⟨l.toArray⟩ ⟨(upS l).toArray⟩ ⟨(dnS l).toArray⟩ (decide (l.head? =some 45)) (decide ((47:UInt8)∈bare l)) (decide (zds (upS l))) (decide (zds (dnS l))) (decide (dnS l=[48])) (decide (dnS l=[49])) (decide (upS l=[48]))
   (Nat.gcd (val (upS l)) (val (dnS l))) (okS l) (by rw[sz];exact hu) (by rw[sz];exact hv) (hid ?_) (zgl _ _ rfl _) (zgl _ _ rfl _) (zgl _ _ rfl _)
   (hid λW=>zn0 l (by omega) W) (hid λW=>hd _ lu W) (hid λW=>hd _ ld W) (hid λh1 h2 h3 h4=>?_) (hid λh1 h2=>?_) w (hid hw)
  ·rw[zxf]
   simp only[decide_eq_true_eq,decide_eq_false_iff_not,ne_eq]
  ·rw[sz] at h3 h4
   have n1:zds (upS l):=of_decide_eq_true h1
   have n2:zds (dnS l):=of_decide_eq_true h2
   refine⟨val (upS l),val (dnS l),λW=>znz _ n1.2.1 h3 W,λW=>znz _ n2.2.1 h4 W,λW=>?_⟩
   have b1:=zS (zjc _ n1.2.1) (yF (by omega) h3:10^(upS l).length<=10^9)
   have b2:=zS (zjc _ n2.2.1) (yF (by omega) h4:10^(dnS l).length<=10^9)
   refine(zzt _ _ (by omega) (by omega) W).mono ?_
   rintro e w' ⟨nd,rfl,rfl⟩
   exact⟨rfl,zao (zM _ _) _⟩
  ·have n1:zds (upS l):=of_decide_eq_true h1
   have n2:zds (dnS l):=of_decide_eq_true h2
   refine⟨⟨(zD (Nat.gcd (val (upS l)) (val (dnS l)))).toArray⟩,?_,λW hW=>?_⟩
   ·rw[zgl _ _ rfl]
    exact decide_eq_decide.2 (z15 _)
   ·have:=zgm (val (upS l):Int) (val (dnS l):Int) (by unfold digs;rw[Int.natAbs_natCast,zeh n1];exact hu) (by unfold digs;rw[Int.natAbs_natCast,zeh n2];exact hv) W hW
    rw[Str.zad,Str.zad,Str.zad,zeh n1,zeh n2] at this
    exact this
 ·refine(ybf ⟨l.toArray⟩ ⟨(upS l).toArray⟩ ⟨(dnS l).toArray⟩ (decide (l.head? =some 45)) (decide ((47:UInt8)∈bare l)) (decide (zds (upS l))) (decide (zds (dnS l))) (decide (dnS l=[48])) (decide (dnS l=[49])) (decide (upS l=[48])) ?_ (zgl _ _ rfl _) (zgl _ _ rfl _) (zgl _ _ rfl _)
   (hid λW=>zn0 l (by omega) W) (hid λW=>hd _ lu W) (hid λW=>hd _ ld W) w).mono ?_
  ·rw[sz,sz];omega
  ·rintro e w' ⟨r,rfl,hr,hb⟩
   exact⟨r,rfl,⟨λk=>absurd k hr,λk=>absurd (hok.1 k).2 hL⟩,hb⟩
def RowSt (p:Option Addr) (l:List (List UInt8)) (W:zA):Prop:=∀i,i<l.length->∃b off,p=some ⟨b,off,none⟩/\W.cell? ⟨b,off+i,none⟩=some (St (l[i]?.getD []))
theorem RowSt.keep {p:Option Addr} {l:List (List UInt8)} {W W':zA} (h:RowSt p l W) (hc:CellsKept W W'):RowSt p l W':=λi hi=>let ⟨b,off,e,h1⟩:=h i hi;⟨b,off,e,hc.cell h1⟩
def shT (x:List UInt8):Prop:=x.length<=8/\∃q,x=numS q/\okQ q
theorem zp9 (x:ByteArray) (Q:Prop)
 (C1:Hid (x.size<=8->∀W:zA,Wd W->zC zF 18 #[.string x] W λe w'=>∃r:Int,e=.returned (.int .i64 r)/\(r=0↔Q)/\zB W.heap.size W w'))
 (w:zA) (HW:Hid (Wd w)):
 zC zF 17 #[.string x] w (BoolP w (x.size<=8/\Q)):=by
 by_cases h1:(8:Int)<x.size
 ·have HN:=hid (λh=>by omega:¬(x.size<=8/\Q))
  go_enter Tryz.func17,Tryz.ntmps17
  go_wp2_with fail
  go_ret
  exact BoolP.no HN.out (zM _ _)
 ·have H1:=hid (C1.out (by omega) w HW.out)
  have HQ:=hid (⟨λh=>h.2,λh=>⟨by omega,h⟩⟩:(x.size<=8/\Q)↔Q)
  clear C1
  go_enter Tryz.func17,Tryz.ntmps17
  go_wp2_with fail
  refine H1.out.mono ?_
  rintro e w2 ⟨r,rfl,hr,hb2⟩
  have HR:=hid hr
  have HB:=hid hb2
  clear hr hb2 H1
  by_cases h0:r=0
  ·have hrb:(r !=0)=false:=by subst h0;rfl
   have HR0:=hid (HQ.out.2 (HR.out.1 h0))
   clear h0
   go_wp2_with fail
   go_ret
   exact BoolP.yes HR0.out HB.out
  ·have hrb:(r !=0)=true:=by simpa using h0
   have HR0:=hid (λh=>h0 (HR.out.2 (HQ.out.1 h)):¬(x.size<=8/\Q))
   clear h0
   go_wp2_with fail
   go_ret
   exact BoolP.no HR0.out HB.out
theorem zsk (x:List UInt8) (w:zA) (hw:Wd w):zC zF 17 #[St x] w (BoolP w (shT x)):=by
 have sz:(⟨x.toArray⟩:ByteArray).size=x.length:=by show x.toArray.size=_;simp
 have:=zp9 ⟨x.toArray⟩ (∃q,x=numS q/\okQ q) (hid λh W hW=>zuj x (by rw[sz] at h;omega) W hW) w (hid hw)
 rw[sz] at this
 exact this
theorem zk9 (p:Option Addr) (cap n:Nat) (l:List (List UInt8)) (hn:n=l.length) (hl:n<=5000) (G:Nat->Prop)
 (F:Hid (∀i,i<n->∀W:zA,Wd W->zC zF 17 #[St (l[i]?.getD [])] W (BoolP W (G i))))
 (w:zA) (HW:Hid (Wd w)) (HP:Hid (RowSt p l w)):
 zC zF 50 #[.slice p n cap,.func (.func 17) #[] #[]] w (IdxP w n G):=by
 have HN:=hid hn;clear hn
 go_enter Tryz.func50,Tryz.ntmps50
 go_wp2
 go_loopw [8] (λi wr=>∃(k:Nat),k<=n/\i=.int .i64 (k:Int)/\Hid (∀i,i<k->G i)/\Hid (qL w wr))
  (λi _=>n-(zL i).toNat)
 case atStart=>exact⟨0,Nat.zero_le _,rfl,λi h=>by omega,zM _ _⟩
 case round=>
  obtain⟨k,hk,rfl,hG,hB⟩:=hrel
  by_cases hlt:k<n
  ·obtain⟨b,off,rfl,c0⟩:=(HP.out.keep (zac hB.out)) k (by rw[<-HN.out];exact hlt)
   have HF:=hid (F.out k hlt wr (HW.out.below hB.out))
   generalize l[k]?.getD []=x at*
   go_wp2_with fail
   refine HF.out.mono ?_
   rintro e w2 ⟨t,rfl,ht,hb2⟩
   have hB2:=hid (hB.out.trans (hb2.mono hB.out.size))
   have HT:=hid ht;clear ht hb2 HF
   cases t
   ·go_wp2_with fail
    go_roundw
    case rel=>exact⟨k+1,by omega,by go_num,λi hi=>(by
     by_cases e:i=k
     ·subst e;exact HT.out.1 (by trivial)
     ·exact hG.out i (by omega)),hB2⟩
    case measure=>simp[zL];omega
   ·go_wp2_with fail
    go_ret
    exact IdxP.hit hlt (λh=>by have:=HT.out.2 h;simp at this) hB2.out
  ·have hkn:k=n:=by omega
   have HK:=hid hkn;clear hkn
   go_wp2_with fail
   go_ret
   exact IdxP.none (by rw[<-HK.out];exact hG.out) hB.out
theorem zhi (p:Option Addr) (cap n:Nat) (G:Nat->Prop) (w:zA)
 (F:Hid (zC zF 50 #[.slice p n cap,.func (.func 17) #[] #[]] w (IdxP w n G))):
 zC zF 16 #[.slice p n cap,.func (.func 17) #[] #[]] w (BoolP w (∀i,i<n->G i)):=by
 go_enter Tryz.func16,Tryz.ntmps16
 go_wp2_with fail
 refine F.out.mono ?_
 rintro e w1 ⟨k,rfl,hk,hB⟩
 rcases hk with⟨rfl,h⟩|⟨h0,i,hi,h⟩
 ·have HN:=hid h;clear h
  go_wp2_with fail
  go_ret
  exact BoolP.yes HN.out hB
 ·have HN:=hid (λh'=>h (h' i hi):¬ ∀i,i<n->G i);clear h
  go_wp2_with fail
  go_ret
  exact BoolP.no HN.out hB
theorem zla (p:Option Addr) (cap n:Nat) (G:Prop) (w:zA)
 (F:Hid (zC zF 16 #[.slice p n cap,.func (.func 17) #[] #[]] w (BoolP w G))):
 zC zF 5 #[.slice p n cap] w (YesP w G):=by
 go_enter Tryz.func5,Tryz.ntmps5
 go_wp2_with fail
 refine F.out.mono ?_
 rintro e w1 ⟨b,rfl,hb,hB⟩
 have HN:=hid hb;clear hb
 cases b
 ·go_wp2_with fail
  go_ret
  exact YesP.yes (HN.out.1 (by trivial)) hB
 ·go_wp2_with fail
  go_ret
  exact YesP.no (λh=>by have:=HN.out.2 h;simp at this) hB
theorem zmy (p:Option Addr) (cap:Nat) (l:List (List UInt8)) (hl:l.length<=5000) (w:zA) (hw:Wd w) (hp:RowSt p l w):
 zC zF 5 #[.slice p l.length cap] w (YesP w (∀i,i<l.length->shT (l[i]?.getD []))):=
 zla p cap l.length _ w (hid (zhi p cap l.length _ w (hid (zk9 p cap l.length l rfl hl (λi=>shT (l[i]?.getD [])) (hid λ_ _ W hW=>zsk _ W hW) w (hid hw) (hid hp)))))
structure Hw (w:zA):Prop where
 wd:Wd w
 pw:Pw w
 sw:Spw w
theorem Hw.below {w w':zA} (h:Hw w) (hb:qL w w'):Hw w':=⟨h.wd.below hb,h.pw.below hb,h.sw.below hb⟩
theorem Hw.d {w:zA} (h:Hw w):Hid (∀W,qL w W->Wd W):=hid λ_ hW=>(h.below hW).wd
theorem Hw.p {w:zA} (h:Hw w):Hid (∀W,qL w W->Pw W):=hid λ_ hW=>(h.below hW).pw
theorem Hw.s {w:zA} (h:Hw w):Hid (∀W,qL w W->Spw W):=hid λ_ hW=>(h.below hW).sw
theorem zjl (A:Nat) (t:TypeId) (a b c:Rat) (W:zA) (h:W.heap[A]? =some (.cells #[St (numS a),St (numS b),St (numS c)] t (0,0))):RowNums (some ⟨A,0,none⟩) 3 (λi=>if i=0 then a else if i=1 then b else c) W:=λi hi=>by
 refine⟨_,_,rfl,?_⟩
 rw[zJ h]
 match i,hi with
 |0,_|1,_|2,_=>rfl
theorem zgr (a b c:Rat) (ha:sz a 60) (hb:sz b 60) (hc:sz c 60) (A:Nat) (t:TypeId) (W:zA) (hW:Wd W) (h:W.heap[A]? =some (.cells #[St (numS a),St (numS b),St (numS c)] t (0,0))):
 qJ 36 #[.slice (some ⟨A,0,none⟩) 3 3] W (.int .i64 0):=by
 refine zml (some ⟨A,0,none⟩) 3 3 (λi=>if i=0 then a else if i=1 then b else c) (by omega) (hid λk hk V hV=>?_) W (hid hW) (hid (zjl A t a b c W h))
 match k,hk with
 |0,_=>exact zfj a (zd0 (by omega) (by omega) ha) V hV
 |1,_=>exact zfj b (zd0 (by omega) (by omega) hb) V hV
 |2,_=>exact zfj c (zd0 (by omega) (by omega) hc) V hV
theorem zc9 (a b c:Rat) (ha:sz a 60) (hb:sz b 60) (hc:sz c 60) (hz:a≠0\/b≠0\/c≠0) (d:Value) (l:List (Rat×Nat)) (hl:SdOk l) (W:zA) (hW:Hw W) (hd:SdL d l W):
 qJ 83 #[.agg #[St (numS a),St (numS b),St (numS c),d]] W (.int .i64 0):=by
 obtain⟨p,n,k,rfl⟩:=hd.any
 have z0:∀q:Rat,q=0->(numS q==[48])=true:=λq h=>by rw[h,zie];rfl
 refine zh5 (numS a) (numS b) (numS c) p n k ?_ W (hid λV hV A hA=>zgr a b c ha hb hc A _ V (hW.below hV).wd hA) (hid λV hV=>zbh _ l hl V (hW.below hV).wd (hW.below hV).pw (hd.below hV))
 by_cases h0:a=0
 ·by_cases h1:b=0
  ·right;right
   exact⟨z0 a h0,z0 b h1,zsf (by rcases hz with h|h|h;exact absurd h0 h;exact absurd h1 h;exact h)⟩
  ·right;left
   exact⟨z0 a h0,zsf h1⟩
 ·left;exact zsf h0
theorem zjk (a b c:Rat) (ha:sz a 60) (hb:sz b 60) (hc:sz c 60) (hz:a≠0\/b≠0\/c≠0) (d:Value) (l:List (Rat×Nat)) (hl:SdOk l) (B:Nat) (W:zA) (hW:Hw W) (hd:SdL d l W) (hB:W.heap[B]? =some (.cells #[St (numS a),St (numS b),St (numS c),d] 45 (0,0))):
 qJ 39 #[.slice (some ⟨B,0,none⟩) 1 1] W (.int .i64 0):=by
 obtain⟨p,n,k,rfl⟩:=hd.any
 refine zef (some ⟨B,0,none⟩) 1 1 (λ_=>numS a) (λ_=>numS b) (λ_=>numS c) (λ_=>.slice p n k) (by omega) (λi _=>⟨_,_,_,rfl⟩) W (hid λi _ V hV=>zc9 a b c ha hb hc hz _ l hl V (hW.below hV) (hd.below hV)) (hid λi hi=>?_)
 obtain rfl:i=0:=by omega
 exact⟨B,0,rfl,by rw[zJ hB];rfl,by rw[zJ hB];rfl,by rw[zJ hB];rfl,by rw[zJ hB];rfl⟩
theorem zgg (a b c d x y z:Rat) (ha:sz a 60) (hb:sz b 60) (hc:sz c 60) (hz:a≠0\/b≠0\/c≠0) (hd:sz d 60) (hx:sz x 60) (hy:sz y 60) (hzz:sz z 60)
 (h1:sz (x*a) 60) (h2:sz (y*b) 60) (h3:sz (z*c) 60) (h4:sz (x*a+y*b) 60) (h5:sz (x*a+y*b+z*c) 60) (h6:sz (x*a+y*b+z*c-d) 60)
 (v ux uy uz:Value) (w:zA) (hw:Hw w) (hv:SdL v (rs d) w) (hux:SdL ux (rs x) w) (huy:SdL uy (rs y) w) (huz:SdL uz (rs z) w):
 qJ 12 #[.agg #[St (numS a),St (numS b),St (numS c),v],.agg #[ux,uy,uz]] w (.tuple #[.int .i64 (Geo.cmpR (x*a+y*b+z*c-d) 0),.int .i64 0]):=by
 obtain⟨qd,nd,kd,rfl⟩:=hv.any
 obtain⟨q0,n0,k0,rfl⟩:=hux.any
 obtain⟨q1,n1,k1,rfl⟩:=huy.any
 obtain⟨q2,n2,k2,rfl⟩:=huz.any
 have H:=λ(W:zA) (h:qL w W)=>hw.below h
 refine zjj (numS a) (numS b) (numS c) qd q0 q1 q2 nd kd n0 n1 n2 k0 k1 k2 (rs (x*a+y*b+z*c)) (rs (x*a+y*b+z*c-d)) _ w
  (hid λW hW B hB=>zjk a b c ha hb hc hz _ (rs d) (zc8 hd) B W (H W hW) (hv.below hW) hB)
  (hid λW hW=>zbh _ (rs x) (zc8 hx) W (H W hW).wd (H W hW).pw (hux.below hW)) (hid λW hW=>zbh _ (rs y) (zc8 hy) W (H W hW).wd (H W hW).pw (huy.below hW)) (hid λW hW=>zbh _ (rs z) (zc8 hzz) W (H W hW).wd (H W hW).pw (huz.below hW))
  (hid λW hW=>?_)
  (hid λW r hW hr=>zsh r _ _ d h5 hd h6 W (H W hW).d (H W hW).p hr (hv.below hW))
  (hid λW u hW hu=>zp6 u _ h6 W (H W hW).d (H W hW).p (H W hW).s hu)
 refine zcq q0 q1 q2 n0 n1 n2 k0 k1 k2 (numS a) (numS b) (numS c) (rs (x*a)) (rs (y*b)) (rs (z*c)) (rs (x*a+y*b)) (rs (x*a+y*b+z*c)) W
  (hid λV hV=>zd3 _ x a hx (ha.mono (by omega)) h1 V ((H W hW).below hV).d ((H W hW).below hV).p ((hux.below hW).below hV))
  (hid λV hV=>zd3 _ y b hy (hb.mono (by omega)) h2 V ((H W hW).below hV).d ((H W hW).below hV).p ((huy.below hW).below hV))
  (hid λV hV=>zd3 _ z c hzz (hc.mono (by omega)) h3 V ((H W hW).below hV).d ((H W hW).below hV).p ((huz.below hW).below hV))
  (hid λV u v hV hu hv=>zny u v _ _ h1 h2 h4 V ((H W hW).below hV).d ((H W hW).below hV).p hu hv)
  (hid λV u v hV hu hv=>zny u v _ _ h4 h3 h5 V ((H W hW).below hV).d ((H W hW).below hV).p hu hv)
theorem zr3 (x y z:Rat) (hx:sz x 60) (hy:sz y 60) (hz:sz z 60) (w:zA) (hw:Hw w):
 zC zF 10 #[.agg #[St (numS x),St (numS y),St (numS z)]] w λe w'=>∃u0 u1 u2,e=.returned (.tuple #[.agg #[u0,u1,u2],.int .i64 0])/\zB w.heap.size w w'/\SdL u0 (rs x) w'/\SdL u1 (rs y) w'/\SdL u2 (rs z) w':=by
 have H:=λ(W:zA) (h:qL w W)=>hw.below h
 exact zn6 (numS x) (numS y) (numS z) (rs x) (rs y) (rs z) w
  (hid λW hW=>zgk _ _ _ (hid λV hV=>zfj x (zd0 (by omega) (by omega) hx) V hV) (hid λV hV=>zfj y (zd0 (by omega) (by omega) hy) V hV) (hid λV hV=>zfj z (zd0 (by omega) (by omega) hz) V hV) W (hid (H W hW).wd))
  (hid λW hW=>z7c x hx W (H W hW).d (H W hW).p) (hid λW hW=>z7c y hy W (H W hW).d (H W hW).p) (hid λW hW=>z7c z hz W (H W hW).d (H W hW).p)
theorem zr4:∀args w,(callFunc 81 args).run zF w=.ok (.enter 81 args) w:=enters_of Tryz.func81 (by kernel_rfl) rfl
theorem zr6:∀args w,(callFunc 82 args).run zF w=.ok (.enter 82 args) w:=enters_of Tryz.func82 (by kernel_rfl) rfl
theorem zr7 (a b c d:Rat) (ha:sz a 60) (hb:sz b 60) (hc:sz c 60) (hd:sz d 60) (v:Value) (w:zA) (hw:Hw w) (hv:SdL v (rs d) w):
 zC zF 82 #[.agg #[St (numS a),St (numS b),St (numS c),v]] w λe w'=>∃u,e=.returned (.tuple #[.agg #[St (numS (-a)),St (numS (-b)),St (numS (-c)),u],.int .i64 0])/\zB w.heap.size w w'/\SdL u (rs (-d)) w':=by
 obtain⟨p,n,k,rfl⟩:=hv.any
 refine zn5 (numS a) (numS b) (numS c) _ _ _ p n k (rs (-d)) w hw.d (hid λW hW=>?_) (hid λW hW=>zea a 60 (by omega) (by omega) ha W hW) (hid λW hW=>zea b 60 (by omega) (by omega) hb W hW) (hid λW hW=>zea c 60 (by omega) (by omega) hc W hW)
 have e:d*(-1)= -d:=by grind
 have:=zd3 (.slice p n k) d (-1) hd (zb7.2.2.2.2.1.mono (by omega)) (by rw[e];exact zce hd) W (hw.below hW).d (hw.below hW).p (hv.below hW)
 rw[e,show St (numS (-1))=.string ⟨#[45,49]⟩ by rw[nm_1]] at this
 exact this
theorem zol (a b c:Rat) (ha:sz a 60) (hb:sz b 60) (hc:sz c 60) (w:zA) (hw:Hw w):
 zC zF 11 #[.agg #[St (numS a),St (numS b),St (numS c)],.bool false] w λe w'=>∃v,e=.returned (.tuple #[.agg #[St (numS (-a)),St (numS (-b)),St (numS 1),v],.int .i64 0])/\zB w.heap.size w w'/\SdL v (rs c) w':=by
 have n1:St (numS 1)=.string ⟨#[49]⟩:=by rw[zfc]
 refine zlt (numS a) (numS b) (numS c) _ _ (numS (-a)) (numS (-b)) (numS 1) false 81 (rs c) (rs c) w hw.d
  (hid λW hW A hA=>zgr a b c ha hb hc A _ W (hw.below hW).wd hA) (hid λW hW=>z7c c hc W (hw.below hW).d (hw.below hW).p) (hid λW=>zgj true W)
  (hid λW hW=>zea a 60 (by omega) (by omega) ha W hW) (hid λW hW=>zea b 60 (by omega) (by omega) hb W hW) (hid λW p n k hW hs=>?_) zr4
 rw[<-n1]
 exact(zn4 _ _ _ p n k (rs c) W hs).mono λe w' ⟨h1,h2,h3⟩=>⟨_,h1,h2,h3⟩
end
section
open Go.RowKit Go.Shelf Lib Str Limb
structure Sh8 (q:Rat):Prop where
 n:q.num.natAbs<=99999999
 d:q.den<=999999
 p:0<q.den
 o:q.den=1\/q.num.natAbs<=999999
theorem zdq {q:Rat} (h:(numS q).length<=8):Sh8 q:=by
 have h3:=zbr q.num
 by_cases h1:q.den=1
 ·rw[zmu h1] at h
  have:=(za3 q.num 8 (by omega)).1 (by omega)
  exact⟨by omega,by omega,by omega,.inl h1⟩
 ·rw[zid h1] at h
  simp at h
  have hd1:1<=(zD q.den).length:=by
   rcases Nat.lt_or_ge (zD q.den).length 1 with k|k
   ·have:=(zaf q.den 1 (by omega)).1 (by omega)
    rw[zae (by omega)] at k
    simp at k
   ·exact k
  have hn1:1<=digs q.num:=by unfold digs;exact Nat.one_le_iff_ne_zero.2 (λe=>by
   have:=(zaf q.num.natAbs 1 (by omega)).1 (by omega)
   rw[zae (by omega)] at e
   simp at e)
  have a:=(za3 q.num 6 (by omega)).1 (by omega)
  have b:=(zaf q.den 6 (by omega)).1 (by omega)
  have:=q.den_pos
  exact⟨by omega,by omega,by omega,.inr (by omega)⟩
theorem szQ {q:Rat} {D:Nat} {z:Int} {k:Nat} (h:q*(D:Rat)=(z:Rat)) (hD:0<D) (h1:D<10^k) (h2:z.natAbs<10^k):sz q k:=by
 have hne:((D:Nat):Rat)≠0:=by
  intro k
  have:(D:Nat)=0:=by exact_mod_cast k
  omega
 have e2:q=Rat.divInt z (D:Int):=by
  rw[Rat.divInt_eq_div,<-h,Rat.intCast_natCast]
  rw[Rat.mul_div_cancel hne]
 rw[e2]
 exact zig (by omega) h2 (by rw[Int.natAbs_natCast];exact h1)
theorem zlk (q:Rat):q*(q.den:Rat)=(q.num:Rat):=by
 have h:=Rat.num_divInt_den q
 have hne:((q.den:Int):Rat)≠0:=by
  intro k
  have:(q.den:Int)=0:=Rat.intCast_inj.1 (k.trans (by simp))
  have:=q.den_nz;omega
 rw[Rat.divInt_eq_div] at h
 have:=Rat.div_mul_cancel (a:=(q.num:Rat)) hne
 rw[h,Rat.intCast_natCast] at this
 exact this
theorem zt4 {a b:Rat} (ha:Sh8 a) (hb:Sh8 b):∃(P:Nat) (u:Int),P=a.den*b.den/\(b-a)*(P:Rat)=(u:Rat)/\u.natAbs<=99999900000000/\(1000000<=P->u.natAbs<=1999996000002)/\P<=999998000001/\0<P:=by
 refine⟨a.den*b.den,b.num*a.den-a.num*b.den,rfl,?_,?_,?_,?_,?_⟩
 ·rw[Rat.intCast_sub,Rat.intCast_mul,Rat.intCast_mul,<-zlk a,<-zlk b,Rat.natCast_mul,Rat.intCast_natCast,Rat.intCast_natCast]
  grind
 ·have h1:=Int.natAbs_sub_le (b.num*a.den) (a.num*b.den)
  rw[yK,yK,Int.natAbs_natCast,Int.natAbs_natCast] at h1
  have e1:=ha.n;have e2:=hb.n;have e3:=ha.d;have e4:=hb.d;have e5:=ha.o;have e6:=hb.o
  refine zO h1 ?_
  rcases e6 with k|k
  ·rw[k]
   rcases e5 with k'|k'
   ·rw[k'];omega
   ·have:=Nat.mul_le_mul e2 e3
    omega
  ·have m1:=Nat.mul_le_mul k e3
   rcases e5 with k'|k'
   ·have:=Nat.mul_le_mul e1 e4
    rw[k'];omega
   ·have:=Nat.mul_le_mul k' e4
    omega
 ·intro hP
  have h1:=Int.natAbs_sub_le (b.num*a.den) (a.num*b.den)
  rw[yK,yK,Int.natAbs_natCast,Int.natAbs_natCast] at h1
  have e3:=ha.d;have e4:=hb.d;have e5:=ha.o;have e6:=hb.o
  have n1:a.den≠1:=λe=>by rw[e] at hP;omega
  have n2:b.den≠1:=λe=>by rw[e] at hP;omega
  have k1:a.num.natAbs<=999999:=by omega
  have k2:b.num.natAbs<=999999:=by omega
  have:=Nat.mul_le_mul k2 e3
  have:=Nat.mul_le_mul k1 e4
  omega
 ·have:=Nat.mul_le_mul ha.d hb.d
  omega
 ·exact Nat.mul_pos ha.p hb.p
theorem zt5 {t r:Rat} {T R:Nat} {τ ρ:Int} (h1:t*(T:Rat)=(τ:Rat)) (h2:r*(R:Rat)=(ρ:Rat)) (hT:T<=10^36) (hR:R<=10^12) (pT:0<T) (pR:0<R) (b1:τ.natAbs<=3*10^40) (b2:ρ.natAbs<=10^14):sz (t*r) 60:=by
 refine szQ (D:=T*R) (z:=τ*ρ) ?_ (Nat.mul_pos pT pR) ?_ ?_
 ·rw[Rat.natCast_mul,Rat.intCast_mul,<-h1,<-h2];grind
 ·exact Nat.lt_of_le_of_lt (Nat.mul_le_mul hT hR) (by decide+kernel)
 ·rw[yK]
  exact Nat.lt_of_le_of_lt (Nat.mul_le_mul b1 b2) (by decide+kernel)
theorem ztk {a dx dy l m:Rat} {P Q:Nat} {u v:Int} {ab:Int} (h0:a*(P:Rat)=(ab:Rat)) (h1:dx*(P:Rat)=(u:Rat)) (h2:dy*(Q:Rat)=(v:Rat)) (hl:Sh8 l) (hm:Sh8 m)
 (b0:ab.natAbs<=10^14) (b1:u.natAbs<=10^14) (b2:v.natAbs<=10^14) (bP:P<=10^12) (bQ:Q<=10^12) (pP:0<P) (pQ:0<Q):
 ∃(T:Nat) (τ:Int),(a+dx*l-dy*m)*(T:Rat)=(τ:Rat)/\T<=10^36/\0<T/\τ.natAbs<=3*10^40:=by
 refine⟨P*Q*l.den*m.den,ab*Q*l.den*m.den+u*l.num*Q*m.den-v*m.num*P*l.den,?_,?_,?_,?_⟩
 ·simp only[Rat.intCast_sub,Rat.intCast_add,Rat.intCast_mul,Rat.natCast_mul,Rat.intCast_natCast]
  rw[<-h0,<-h1,<-h2,<-zlk l,<-zlk m]
  grind
 ·refine zO (Nat.mul_le_mul (Nat.mul_le_mul (Nat.mul_le_mul bP bQ) hl.d) hm.d) (by decide+kernel)
 ·exact Nat.mul_pos (Nat.mul_pos (Nat.mul_pos pP pQ) hl.p) hm.p
 ·have n1:=Int.natAbs_sub_le (ab*Q*l.den*m.den+u*l.num*Q*m.den) (v*m.num*P*l.den)
  have n2:=Int.natAbs_add_le (ab*Q*l.den*m.den) (u*l.num*Q*m.den)
  simp only[yK,Int.natAbs_natCast] at n1 n2
  have k1:=Nat.mul_le_mul (Nat.mul_le_mul (Nat.mul_le_mul b0 bQ) hl.d) hm.d
  have k2:=Nat.mul_le_mul (Nat.mul_le_mul (Nat.mul_le_mul b1 hl.n) bQ) hm.d
  have k3:=Nat.mul_le_mul (Nat.mul_le_mul (Nat.mul_le_mul b2 hm.n) bP) hl.d
  have e1:10^14*10^12*999999*999999<=10^40:=by decide+kernel
  have e2:10^14*99999999*10^12*999999<=10^40:=by decide+kernel
  omega
theorem sq8 {U V P Q:Nat} (hU:U<=99999900000000) (hV:V<=99999900000000) (kU:1000000<=P->U<=1999996000002) (kV:1000000<=Q->V<=1999996000002) (hP:P<=999998000001) (hQ:Q<=999998000001):
 U*Q*(U*Q)+V*P*(V*P)<=10^52-10^46:=by
 have S:∀{x y:Nat},x<=y->x*x<=y*y:=λh=>Nat.mul_le_mul h h
 by_cases hp:1000000<=P
 ·have a1:=S (Nat.mul_le_mul (kU hp) hQ)
  by_cases hq:1000000<=Q
  ·have a2:=S (Nat.mul_le_mul (kV hq) hP)
   refine zO (Nat.add_le_add a1 a2) (by decide+kernel)
  ·have a1:=S (Nat.mul_le_mul (kU hp) (show Q<=999999 by omega))
   have a2:=S (Nat.mul_le_mul hV hP)
   refine zO (Nat.add_le_add a1 a2) (by decide+kernel)
 ·by_cases hq:1000000<=Q
  ·have a1:=S (Nat.mul_le_mul hU hQ)
   have a2:=S (Nat.mul_le_mul (kV hq) (show P<=999999 by omega))
   refine zO (Nat.add_le_add a1 a2) (by decide+kernel)
  ·have a1:=S (Nat.mul_le_mul hU (show Q<=999999 by omega))
   have a2:=S (Nat.mul_le_mul hV (show P<=999999 by omega))
   refine zO (Nat.add_le_add a1 a2) (by decide+kernel)
theorem ztl {aX aY bX bY l m:Rat} (h1:Sh8 aX) (h2:Sh8 aY) (h3:Sh8 bX) (h4:Sh8 bY) (hl:Sh8 l) (hm:Sh8 m):
 sz ((aX+(bX-aX)*l-(bY-aY)*m)*(bY-aY)) 60/\sz ((aY+(bY-aY)*l+(bX-aX)*m)*(aX-bX)) 60/\
 sz ((bY-aY)*aX+(aX-bX)*aY-m*((bX-aX)*(bX-aX)+(bY-aY)*(bY-aY))) 60/\sz (m*((bX-aX)*(bX-aX)+(bY-aY)*(bY-aY))) 60:=by
 obtain⟨P,u,eP,hu,bu,ku,bP,pP⟩:=zt4 h1 h3
 obtain⟨Q,v,eQ,hv,bv,kv,bQ,pQ⟩:=zt4 h2 h4
 have ba1:=Nat.mul_le_mul h1.n h3.d
 have ba2:=Nat.mul_le_mul h2.n h4.d
 have g1:aX*(P:Rat)=((aX.num*bX.den:Int):Rat):=by
  rw[eP,Rat.natCast_mul,Rat.intCast_mul,<-zlk aX,Rat.intCast_natCast];grind
 have g2:aY*(Q:Rat)=((aY.num*bY.den:Int):Rat):=by
  rw[eQ,Rat.natCast_mul,Rat.intCast_mul,<-zlk aY,Rat.intCast_natCast];grind
 have c1:(aX.num*bX.den:Int).natAbs<=99999899000001:=by rw[yK,Int.natAbs_natCast];omega
 have c2:(aY.num*bY.den:Int).natAbs<=99999899000001:=by rw[yK,Int.natAbs_natCast];omega
 generalize (aX.num*bX.den:Int)=x at g1 c1
 generalize (aY.num*bY.den:Int)=y at g2 c2
 have t14:(10:Nat)^14=100000000000000:=by decide
 have t12:(10:Nat)^12=1000000000000:=by decide
 clear eP eQ ba1 ba2
 refine⟨?_,?_,?_,?_⟩
 ·obtain⟨T,τ,e,hT,pT,bt⟩:=ztk g1 hu hv hl hm (by omega) (by omega) (by omega) (by omega) (by omega) pP pQ
  exact zt5 e hv hT (by omega) pT pQ bt (by omega)
 ·have hu':(aX-bX)*(P:Rat)=((-u:Int):Rat):=by rw[Rat.intCast_neg,<-hu];grind
  obtain⟨T,τ,e,hT,pT,bt⟩:=ztk (m:=m) g2 hv hu' hl hm (by omega) (by omega) (by rw[Int.natAbs_neg];omega) (by omega) (by omega) pQ pP
  rw[show aY+(bY-aY)*l-(aX-bX)*m=aY+(bY-aY)*l+(bX-aX)*m by grind] at e
  exact zt5 e hu' hT (by omega) pT pP bt (by rw[Int.natAbs_neg];omega)
 ·have hs:=sq8 bu bv ku kv bP bQ
  have hmo:=hm.o
  have bm:=hm.n;have bd:=hm.d;have pd:=hm.p
  refine szQ (D:=m.den*(P*P)*(Q*Q)) (z:=(v*x-u*y)*m.den*P*Q-m.num*((u*Q)*(u*Q)+(v*P)*(v*P))) ?_ (Nat.mul_pos (Nat.mul_pos pd (Nat.mul_pos pP pP)) (Nat.mul_pos pQ pQ)) ?_ ?_
  ·simp only[Rat.intCast_sub,Rat.intCast_add,Rat.intCast_mul,Rat.natCast_mul,Rat.intCast_natCast]
   rw[<-g1,<-g2,<-hu,<-hv,<-zlk m]
   grind
  ·exact Nat.lt_of_le_of_lt (Nat.mul_le_mul (Nat.mul_le_mul bd (Nat.mul_le_mul bP bP)) (Nat.mul_le_mul bQ bQ)) (by decide+kernel)
  ·have n1:=Int.natAbs_sub_le ((v*x-u*y)*m.den*P*Q) (m.num*((u*Q)*(u*Q)+(v*P)*(v*P)))
   have n2:=Int.natAbs_sub_le (v*x) (u*y)
   have n3:=Int.natAbs_add_le ((u*Q)*(u*Q)) ((v*P)*(v*P))
   simp only[yK,Int.natAbs_natCast] at n1 n2 n3
   have k1:=Nat.mul_le_mul bv c1
   have k2:=Nat.mul_le_mul bu c2
   have k0:(v*x-u*y).natAbs<=2*(99999900000000*99999899000001):=by omega
   have k3:((u*Q)*(u*Q)+(v*P)*(v*P)).natAbs<=10^52-10^46:=zO n3 hs
   have k4:=Nat.mul_le_mul (Nat.mul_le_mul (Nat.mul_le_mul k0 (zN m.den)) bP) bQ
   refine Nat.lt_of_le_of_lt n1 ?_
   rcases hmo with k|k
   ·rw[k] at k4⊢
    have k5:=Nat.mul_le_mul bm k3
    refine Nat.lt_of_le_of_lt (Nat.add_le_add k4 k5) (by decide+kernel)
   ·have k4:=Nat.mul_le_mul (Nat.mul_le_mul (Nat.mul_le_mul k0 bd) bP) bQ
    have k5:=Nat.mul_le_mul k k3
    refine Nat.lt_of_le_of_lt (Nat.add_le_add k4 k5) (by decide+kernel)
 ·have hs:=sq8 bu bv ku kv bP bQ
  have bm:=hm.n;have bd:=hm.d;have pd:=hm.p
  refine szQ (D:=m.den*(P*P)*(Q*Q)) (z:=m.num*((u*Q)*(u*Q)+(v*P)*(v*P))) ?_ (Nat.mul_pos (Nat.mul_pos pd (Nat.mul_pos pP pP)) (Nat.mul_pos pQ pQ)) ?_ ?_
  ·simp only[Rat.intCast_add,Rat.intCast_mul,Rat.natCast_mul,Rat.intCast_natCast]
   rw[<-hu,<-hv,<-zlk m]
   grind
  ·exact Nat.lt_of_le_of_lt (Nat.mul_le_mul (Nat.mul_le_mul bd (Nat.mul_le_mul bP bP)) (Nat.mul_le_mul bQ bQ)) (by decide+kernel)
  ·have n3:=Int.natAbs_add_le ((u*Q)*(u*Q)) ((v*P)*(v*P))
   rw[yK]
   simp only[yK,Int.natAbs_natCast] at n3
   refine Nat.lt_of_le_of_lt (Nat.mul_le_mul bm (zO n3 hs)) (by decide+kernel)
end
end Go.Proofs.YtccijmidbdapaaaGreatDoor
