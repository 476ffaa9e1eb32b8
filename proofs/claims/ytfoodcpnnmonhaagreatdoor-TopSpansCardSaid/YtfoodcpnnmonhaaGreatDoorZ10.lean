/- kingpostref01.read. -/
import Derived.Test.YtfoodcpnnmonhaaGreatDoorZ09
import Derived.Deep.Onto
set_option maxRecDepth 100000
set_option maxHeartbeats 8000000
open Go renaming World → zA, Calls → zC
open Go.RowKit renaming Below → zB, intOf → zL
open Go.Lib renaming decDigits → zD, itoa → zE
open Go.Proofs.Tryz renaming prog → zF
open Go.World renaming alloc_heap_new → zG, size_alloc → zH
open Go.IntWalk renaming i64_in → zI
open Go.Joins renaming cell_of_block → zJ, block_setCell → zK
open Go.RowKit.Below renaming refl → zM
open Nat renaming le_refl → zN, le_trans → zO, mod_lt → zP, mod_eq_of_lt → zQ, zero_le → zR, lt_of_lt_of_le → zS, pow_le_pow_right → yF, pow_succ → yO, mul_comm → yP, pos_of_ne_zero → yS
open List renaming getElem_mem → zY, append_nil → yH
open Int renaming natAbs_mul → yK
namespace Go.Proofs.YtfoodcpnnmonhaaGreatDoor
section
open Go.RowKit Go.Shelf Lib Str Limb
attribute [local go_sem] Oper.semAt_some
theorem zty (a:List UInt8):∀b:List UInt8,val (a++b)=val a*10^b.length+val b:=by
 intro b
 induction h:b.length generalizing b with
 |zero=>have:b=[]:=List.length_eq_zero_iff.1 h;subst this;simp[val]
 |succ k ih=>
  rcases Limb.snoc_cases b with rfl|⟨i,x,rfl⟩
  ·simp at h
  ·have hi:i.length=k:=by simpa using h
   rw[<-List.append_assoc,zde,ih i hi,zde,yO];rw[Nat.mul_add];have:10*(val a*10^k)=val a*(10^k*10):=by rw[Nat.mul_left_comm,yP 10]
   omega
def zb0 (n k:Nat):List Nat:=(List.range k).map λi=>n/B6^i%B6
theorem zkc (n k:Nat):zb0 n (k+1)=zb0 n k++[n/B6^k%B6]:=by simp[zb0,List.range_succ]
theorem zg0 (n k:Nat):(zb0 n k).length=k:=by simp[zb0]
theorem zqn (n k:Nat):zal B6 (zb0 n k):=λx hx=>by
 obtain⟨i,_,rfl⟩:=List.mem_map.1 hx;exact zP _ (by decide)
theorem zlx (n:Nat):∀k,valL B6 (zb0 n k)=n%B6^k
 |0=>by simp[zb0,valL,Nat.mod_one]
 |k+1=>by
  rw[zkc,zcm,zlx n k,zg0,yO,Nat.mod_mul]
theorem zk1 {n k:Nat} (h:n<B6^k):zat (zb0 n k)=zaa B6 n:=by
 rw[zbu (B:=B6) (by decide) (zqn n k),zlx,zQ h]
theorem zqr (n e:Nat) (_:e<=(zD n).length):val ((zD n).take e)=n/10^((zD n).length-e):=by
 have h1:=zty ((zD n).take e) ((zD n).drop e);rw[List.take_append_drop,zb2,List.length_drop] at h1;have h2:=zjc ((zD n).drop e) (λc hc=>⟨(zan n c (List.mem_of_mem_drop hc)).1,(zan n c (List.mem_of_mem_drop hc)).2⟩);rw[List.length_drop] at h2;generalize (zD n).length-e=k at*
 have hp:0<10^k:=Nat.pow_pos (by omega)
 conv=>rhs;rw[h1]
 rw[yP,Nat.mul_add_div hp,Nat.div_eq_of_lt h2,Nat.add_zero]
theorem zvc (n k x:Nat) (hk:6*k<(zD n).length) (h:val ((zD n).take ((zD n).length-6*k))=val ((zD n).take ((zD n).length-6*k-6))*10^((zD n).length-6*k-((zD n).length-6*k-6))+x)
 (hx:x<10^((zD n).length-6*k-((zD n).length-6*k-6))):x=n/B6^k%B6:=by
 have e1:=zqr n ((zD n).length-6*k) (by omega);rw[show(zD n).length-((zD n).length-6*k)=6*k by omega,Nat.pow_mul] at e1;have e2:n/B6^k=val ((zD n).take ((zD n).length-6*k)):=e1.symm;rw[e2];rcases Nat.lt_or_ge ((zD n).length-6*k) 6 with h6|h6
 ·have h0:(zD n).length-6*k-6=0:=by omega
  rw[h0] at h hx;rw[List.take_zero,zyb,Nat.zero_mul,Nat.zero_add] at h;have:10^((zD n).length-6*k-0)<=10^6:=yF (by omega) (by omega);rw[h];exact(zQ (show x<B6 from zS hx this)).symm
 ·rw[show(zD n).length-6*k-((zD n).length-6*k-6)=6 by omega] at h hx
  rw[h,yP];show x=(B6*_+x)%B6;rw[Nat.mul_add_mod];exact(zQ (show x<B6 from hx)).symm
theorem zvd (n k:Nat) (h:(zD n).length<=6*k):n<B6^k:=by
 have h1:n<10^(zD n).length:=by
  have:=zjc (zD n) (λc hc=>zan n c hc);rwa [zb2] at this
 have h2:10^(zD n).length<=10^(6*k):=yF (by omega) h;rw[Nat.pow_mul] at h2;exact zS h1 h2
structure ReadS (w:zA) (neg:Bool) (n k:Nat) (v:Value) (W:zA):Prop where
 bel:qL w W
 rb:W.heap[w.heap.size]? =some (.cells #[.bool false,.slice none 0 0] 254 (0,0))
 xb:W.heap[w.heap.size+1]? =some (.cells #[.bool neg,v] 254 (0,0))
 own:W.ownsRow (w.heap.size+2) 3 1 v k ((zb0 n k).map I)
theorem ReadS.c1 {w:zA} {neg:Bool} {n k:Nat} {v:Value} {W:zA} (h:ReadS w neg n k v W):W.cell? ⟨w.heap.size+1,1,none⟩=some v/\W.frozen? ⟨w.heap.size+1,1,none⟩=false/\W.cell? ⟨w.heap.size+1,0,none⟩=some (.bool neg):=by
 refine⟨?_,?_,?_⟩<;>simp[World.cell?,World.frozen?,h.xb]
theorem ReadS.r {w:zA} {neg:Bool} {n k:Nat} {v:Value} {W:zA} (h:ReadS w neg n k v W):W.cell? ⟨w.heap.size,0,none⟩=some (.bool false)/\W.frozen? ⟨w.heap.size,0,none⟩=false/\W.cell? ⟨w.heap.size,1,none⟩=some (.slice none 0 0)/\W.frozen? ⟨w.heap.size,1,none⟩=false:=by
 refine⟨?_,?_,?_,?_⟩<;>simp[World.cell?,World.frozen?,h.rb]
theorem ReadS.step {w:zA} {neg:Bool} {n k:Nat} {v v':Value} {W W':zA} (h:ReadS w neg n k v W) (x:Nat) (hx:x=n/B6^k%B6)
 (hown:W'.ownsRow (w.heap.size+2) 3 1 v' (k+1) ((zb0 n k).map I++[.int .i64 x])) (hb:zB (w.heap.size+2) W W'):
 ReadS w neg n (k+1) v' (W'.setCell ⟨w.heap.size+1,1,none⟩ v'):=by
 refine⟨(h.bel.trans (hb.mono (by omega))).setCell (by show w.heap.size<=w.heap.size+1;omega) _,?_,?_,?_⟩
 ·exact(Below.heap_setCell _ ⟨w.heap.size+1,1,none⟩ _ w.heap.size (by show w.heap.size≠w.heap.size+1;omega)).trans ((hb.block _ (by omega)).trans h.rb)
 ·have:=(hb.block (w.heap.size+1) (by omega)).trans h.xb
  simp[World.setCell,Array.getElem?_modify,this]
 ·have:=zka (p:=⟨w.heap.size+1,1,none⟩) hown (by show w.heap.size+1<w.heap.size+2;omega) v'
  rw[zkc,<-hx,List.map_append];exact this
theorem znu (z:Int) (w:zA) (hl:digs z<=700):
 zC zF 218 #[St (zE z)] w λe w'=>∃v,e=.returned (.agg #[.bool (decide (z<0)),v])/\Sl w' v ((zaa B6 z.natAbs).map I)/\zB w.heap.size w w':=by
 obtain⟨i0,hi,hz0,hz1,hz2⟩:=info_parts zdv;obtain⟨n,hn⟩:=zzX z.natAbs;have hl2:(zD n).length<=700:=by rw[hn];exact hl
 have hd:=zan n;have hpos:1<=(zD n).length:=by have:=zbn (n:Int);unfold digs at this;simpa using this
 have CV:=hid (zvc n);have CE:=hid (zvd n);obtain⟨l,hll⟩:=zzX (zD n);rw[<-hll] at hd hl2 hpos CV CE;obtain⟨s,hs⟩:=zzX (⟨l.toArray⟩:ByteArray);obtain⟨b1,b2⟩:=zds l s hs;have hst:∀k (hb:k<s.size),48<=(s[k]'hb).toNat/\(s[k]'hb).toNat<=57/\val (l.take (k+1))=10*val (l.take k)+((s[k]'hb).toNat-48):=λk hb=>by
  have hk:k<l.length:=by omega
  rw[b2 k hk hb,List.take_succ_eq_append_getElem hk,zde];exact⟨(hd _ (zY hk)).1,(hd _ (zY hk)).2,rfl⟩
 rw[<-b1] at CV CE;generalize hvf:(λk=>val (l.take k))=vf at*
 have ST:=hid (show ∀k (hb:k<s.size),48<=(s[k]'hb).toNat/\(s[k]'hb).toNat<=57/\vf (k+1)=10*vf k+((s[k]'hb).toNat-48) by rw[<-hvf];exact hst);have CV2:=hid (show ∀k x,6*k<s.size->vf (s.size-6*k)=vf (s.size-6*k-6)*10^(s.size-6*k-(s.size-6*k-6))+x->x<10^(s.size-6*k-(s.size-6*k-6))->x=n/B6^k%B6 by rw[<-hvf];exact CV.out);have hs0:0<s.size:=by omega
 have hs7:s.size<=700:=by omega
 clear hst hvf CV;have hhead:(0<=z/\zE z=l)\/(z<0/\zE z=45::l):=by
  rcases zbg z with⟨h,e⟩|⟨h,e⟩
  ·exact .inl ⟨h,by rw[e,hll,hn]⟩
  ·exact .inr ⟨h,by rw[e,hll,hn]⟩
 rcases hhead with⟨hzn,he⟩|⟨hzn,he⟩
 ·have hdec:decide (z<0)=false:=by rw[decide_eq_false_iff_not];omega
  rw[he,hdec,<-hn];show zC _ _ #[.string ⟨l.toArray⟩] _ _;rw[<-hs];have h45:(((s[0]'hs0).toNat:Int)==45)=false:=by rw[beq_eq_false_iff_ne];have:=(ST.out 0 hs0).1;omega
  have hI:ReadS w false n 0 (.slice none 0 0) ((w.alloc (.cells #[.bool false,.slice none 0 0] 254)).alloc (.cells #[.bool false,.slice none 0 0] 254)):=by
   refine⟨((zM _ w).alloc (zN _) _).alloc (by simp) _,?_,?_,?_⟩
   ·exact(Below.heap_alloc _ _ _ (by simp)).trans (heap_alloc_new w _)
   ·have:=heap_alloc_new (w.alloc (.cells #[.bool false,.slice none 0 0] 254)) (.cells #[.bool false,.slice none 0 0] 254)
    rwa [zH] at this
   ·exact World.ownsRow_nil _ _ _ _
  have HI:=hid hI;clear hI b1 b2 hs hll hd hpos hl2 he hl hn hzn hdec;go_enter Tryz.func218,Tryz.ntmps218;go_wp2;go_loopw [4] (λi wr=>∃(k:Nat) (v:Value),i=.int .i64 ((s.size:Int)-6*k)/\6*k<s.size+6/\ReadS w false n k v wr) (λi _=>(zL i+6).toNat)
  case atStart=>exact⟨0,_,by simp,by omega,HI.out⟩
  case round=>
   clear HI h45;obtain⟨k,v,rfl,hk,hS⟩:=hrel;obtain⟨c1,f1, -⟩:=hS.c1;by_cases hlt:6*k<s.size
   ·obtain⟨e,he⟩:=zzX (s.size-6*k)
    obtain⟨f,hf⟩:=zzX (e-6);have hE:(s.size:Int)-6*k=(e:Int):=by omega
    rw[hE];have hm:max (0:Int) ((e:Int)-6)=(f:Int):=by omega
    have hef:e-f<=6:=by omega
    have hfe:f<=e:=by omega
    have hes:e<=s.size:=by omega
    have he0:0<e:=by omega
    have CVk:=CV2.out k;rw[<-he,<-hf] at CVk;have HCV:=hid CVk;have HE:=hid hE;have HS:=hid hS;clear hE CVk hS hf c1 f1 he;go_wp2;go_loopw [5,6] (λa i wr'=>wr'=wr/\∃j x:Nat,f<=j/\j<=e/\i=.int .i64 j/\a=.int .i64 x/\vf j=vf f*10^(j-f)+x/\x<10^(j-f)) (λ_ i _=>e-(zL i).toNat)
    case atStart=>exact⟨rfl,f,0,zN _,hfe,rfl,rfl,by simp,by simp⟩
    case round=>
     obtain⟨hw',j,x,hj1,hj2,rfl,rfl,hv,hx⟩:=hrel;subst hw';have hx6:x<1000000:=zS hx (yF (by omega) (by omega):10^(j-f)<=10^6);by_cases hje:j<e
     ·have hjs:j<s.size:=by omega
      obtain⟨d1',d2',d3⟩:=ST.out j hjs;have HV:=hid (show vf (j+1)=vf f*10^(j+1-f)+(10*x+((s[j]'hjs).toNat-48))/\10*x+((s[j]'hjs).toNat-48)<10^(j+1-f) by
       rw[show j+1-f=(j-f)+1 by omega,yO,d3,hv];constructor
       ·rw[Nat.mul_add,<-Nat.mul_assoc,yP 10,Nat.mul_assoc,yP 10];omega
       ·omega)
      have d1:(48:Int)<=((s[j]'hjs).toNat:Int):=by omega
      have d2:((s[j]'hjs).toNat:Int)<=57:=by omega
      clear hv hx d3;go_wp2;go_roundw
      case rel=>exact⟨by first|rfl|trivial,j+1,10*x+((s[j]'hjs).toNat-48),by omega,by omega,by go_num,by show Value.int .i64 _=Value.int .i64 _;congr 1;omega,HV.out.1,HV.out.2⟩
      case measure=>simp[zL];omega
     ·obtain rfl:j=e:=by omega
      have hxc:=HCV.out x hlt hv hx;have HX:=hid hxc;obtain⟨c1,f1, -⟩:=HS.out.c1;have hsz:w.heap.size+2<=wr.heap.size:=by
       have h1:=(Array.getElem?_eq_some_iff.1 HS.out.xb).1;omega
      clear hv hx hxc;go_wp2_with (at_builtin;refine wpList_append_own _ rfl _ _ 39 rfl (w.heap.size+2) 3 i0 (.int .i64 0) 1 8 Tryz.underlying39 hi hz0 hz1 hz2 rfl (by decide) _ _ _ rfl (HS.out.own.alloc _) ⟨wr.heap.size,0,none⟩ 1 1 [.int .i64 (x:Int)] rfl rfl (zep _ _ _) (zfn _) (by unfold maxLen;omega) (by omega) (by simp;omega) ?_);intro v' w1 hown' hgrow _;obtain⟨vp',vm',vc',rfl⟩:=ze4 hown';have hb1:zB (w.heap.size+2) wr w1:=((zM (w.heap.size+2) wr).alloc hsz _).grown hgrow (by simp;omega) (λq e=>(HS.out.own.lt q e).1);have hxb:=(hb1.block (w.heap.size+1) (by omega)).trans HS.out.xb;have k1:w1.cell? ⟨w.heap.size+1,1,none⟩=some v:=by simp[World.cell?,hxb]
      have k2:w1.frozen? ⟨w.heap.size+1,1,none⟩=false:=by simp[World.frozen?,hxb]
      have HN:=hid (HS.out.step x HX.out hown' hb1);clear hgrow hown' hb1 hxb c1 f1 hsz;go_wp2;go_roundw
      case rel=>exact⟨k+1,_,by have:=HE.out;show Value.int .i64 _=Value.int .i64 _;congr 1;omega,by omega,HN.out⟩
      case measure=>simp[zL];omega
   ·have hle:¬(0:Int)<(s.size:Int)-6*k:=by omega
    have hch:=CE.out k (by omega);obtain⟨vp,vm,vc,rfl⟩:=ze4 hS.own;have hlen:=zg0 n k;have hk2:k<=200:=by omega
    have hrr:=hS.r;obtain⟨r0,fr0,r1,fr1⟩:=hrr;obtain⟨-, -,c0⟩:=hS.c1;have T:=hid (zdq vp vm vc (zb0 n k) wr (Sl.of_own hS.own) (by rw[hlen];omega));have hst:Sl wr (.slice vp (zat (zb0 n k)).length vc) ((zat (zb0 n k)).map I):=Sl.of_own (zgz hS.own hlen);rw[zk1 hch] at T hst;have HST:=hid hst;have HB:=hid hS.bel;have hne:w.heap.size≠w.heap.size+1:=by omega
    have hne2:w.heap.size+1≠w.heap.size:=by omega
    clear hS hst hch hlen hlt hk hk2;go_wp21;refine zzM T.out λw9 hw9=>?_;have hw9':=hw9.symm;subst hw9';clear T hw9;generalize hLL:(zaa B6 n).length=LL at*
    have d0:=(zau _ (b:=w.heap.size) (b':=w.heap.size+1) 0 1 (.slice vp LL vc) hne).trans r0;have d1:=(zau _ (b:=w.heap.size) (b':=w.heap.size+1) 1 1 (.slice vp LL vc) hne).trans r1;have e1:=(World.cell?_setCell_other _ _ _ (.bool false) (show(⟨w.heap.size,0,none⟩:Addr)≠⟨w.heap.size,1,none⟩ by simp)).trans d1;have e0:=za9 (u:=.bool false) d0;have g0:=((World.cell?_setCell_other _ _ _ (.slice vp LL vc) (show(⟨w.heap.size,1,none⟩:Addr)≠⟨w.heap.size,0,none⟩ by simp)).trans e0);have g1:=(za9 (u:=.slice vp LL vc) e1);have hs1:=HST.out.set c1 (λx=>by simp[I]) (.slice vp LL vc);have hs2:=hs1.set d0 (λx=>by simp[I]) (.bool false);have hs3:=hid (hs2.set e1 (λx=>by simp[I]) (.slice vp LL vc));have hB3:=hid (((HB.out.setCell (p:=⟨w.heap.size+1,1,none⟩) (by show w.heap.size<=w.heap.size+1;omega) (.slice vp LL vc)).setCell (p:=⟨w.heap.size,0,none⟩) (zN _) (.bool false)).setCell (p:=⟨w.heap.size,1,none⟩) (zN _) (.slice vp LL vc));have G:=hid (⟨g0,g1⟩:_/\_);clear hs1 hs2 d0 d1 e0 e1 g0 g1;go_wp2;have g0:=G.out.1;have g1:=G.out.2;exact bodyPost_ret (v:=.agg #[.bool false,.slice vp LL vc]) (by simp[results,Tryz.results218,go_sem,g0,g1]) rfl ⟨_,rfl,hs3.out,hB3.out⟩
 ·have hdec:decide (z<0)=true:=by rw[decide_eq_true_iff];exact hzn
  rw[he,hdec,<-hn];obtain⟨t,ht⟩:=zzX (⟨(45::l).toArray⟩:ByteArray);obtain⟨t1,t2⟩:=zds (45::l) t ht;have hts:t.size=s.size+1:=by rw[t1,b1];simp
  have ht0:0<t.size:=by omega
  have htb:t.size<=701:=by omega
  have hx:t.extract 1 t.size=s:=by rw[ht,zel,hs];rfl
  show zC _ _ #[.string ⟨(45::l).toArray⟩] _ _;rw[<-ht];have h45:(((t[0]'ht0).toNat:Int)==45)=true:=by rw[t2 0 (by simp) ht0];rfl
  have hI:ReadS w true n 0 (.slice none 0 0) ((w.alloc (.cells #[.bool false,.slice none 0 0] 254)).alloc (.cells #[.bool true,.slice none 0 0] 254)):=by
   refine⟨((zM _ w).alloc (zN _) _).alloc (by simp) _,?_,?_,?_⟩
   ·exact(Below.heap_alloc _ _ _ (by simp)).trans (heap_alloc_new w _)
   ·have:=heap_alloc_new (w.alloc (.cells #[.bool false,.slice none 0 0] 254)) (.cells #[.bool true,.slice none 0 0] 254)
    rwa [zH] at this
   ·exact World.ownsRow_nil _ _ _ _
  have HI:=hid hI;clear hI b1 b2 hs hll hd hpos hl2 he hl hn hzn hdec ht t1 t2 hts;go_enter Tryz.func218,Tryz.ntmps218;go_wp2;clear hx h45;go_loopw [4] (λi wr=>∃(k:Nat) (v:Value),i=.int .i64 ((s.size:Int)-6*k)/\6*k<s.size+6/\ReadS w true n k v wr) (λi _=>(zL i+6).toNat)
  case atStart=>exact⟨0,_,by simp,by omega,HI.out⟩
  case round=>
   clear HI;obtain⟨k,v,rfl,hk,hS⟩:=hrel;obtain⟨c1,f1, -⟩:=hS.c1;by_cases hlt:6*k<s.size
   ·obtain⟨e,he⟩:=zzX (s.size-6*k)
    obtain⟨f,hf⟩:=zzX (e-6);have hE:(s.size:Int)-6*k=(e:Int):=by omega
    rw[hE];have hm:max (0:Int) ((e:Int)-6)=(f:Int):=by omega
    have hef:e-f<=6:=by omega
    have hfe:f<=e:=by omega
    have hes:e<=s.size:=by omega
    have he0:0<e:=by omega
    have CVk:=CV2.out k;rw[<-he,<-hf] at CVk;have HCV:=hid CVk;have HE:=hid hE;have HS:=hid hS;clear hE CVk hS hf c1 f1 he;go_wp2;go_loopw [5,6] (λa i wr'=>wr'=wr/\∃j x:Nat,f<=j/\j<=e/\i=.int .i64 j/\a=.int .i64 x/\vf j=vf f*10^(j-f)+x/\x<10^(j-f)) (λ_ i _=>e-(zL i).toNat)
    case atStart=>exact⟨rfl,f,0,zN _,hfe,rfl,rfl,by simp,by simp⟩
    case round=>
     obtain⟨hw',j,x,hj1,hj2,rfl,rfl,hv,hx⟩:=hrel;subst hw';have hx6:x<1000000:=zS hx (yF (by omega) (by omega):10^(j-f)<=10^6);by_cases hje:j<e
     ·have hjs:j<s.size:=by omega
      obtain⟨d1',d2',d3⟩:=ST.out j hjs;have HV:=hid (show vf (j+1)=vf f*10^(j+1-f)+(10*x+((s[j]'hjs).toNat-48))/\10*x+((s[j]'hjs).toNat-48)<10^(j+1-f) by
       rw[show j+1-f=(j-f)+1 by omega,yO,d3,hv];constructor
       ·rw[Nat.mul_add,<-Nat.mul_assoc,yP 10,Nat.mul_assoc,yP 10];omega
       ·omega)
      have d1:(48:Int)<=((s[j]'hjs).toNat:Int):=by omega
      have d2:((s[j]'hjs).toNat:Int)<=57:=by omega
      clear hv hx d3;go_wp2;go_roundw
      case rel=>exact⟨by first|rfl|trivial,j+1,10*x+((s[j]'hjs).toNat-48),by omega,by omega,by go_num,by show Value.int .i64 _=Value.int .i64 _;congr 1;omega,HV.out.1,HV.out.2⟩
      case measure=>simp[zL];omega
     ·obtain rfl:j=e:=by omega
      have hxc:=HCV.out x hlt hv hx;have HX:=hid hxc;obtain⟨c1,f1, -⟩:=HS.out.c1;have hsz:w.heap.size+2<=wr.heap.size:=by
       have h1:=(Array.getElem?_eq_some_iff.1 HS.out.xb).1;omega
      clear hv hx hxc;go_wp2_with (at_builtin;refine wpList_append_own _ rfl _ _ 39 rfl (w.heap.size+2) 3 i0 (.int .i64 0) 1 8 Tryz.underlying39 hi hz0 hz1 hz2 rfl (by decide) _ _ _ rfl (HS.out.own.alloc _) ⟨wr.heap.size,0,none⟩ 1 1 [.int .i64 (x:Int)] rfl rfl (zep _ _ _) (zfn _) (by unfold maxLen;omega) (by omega) (by simp;omega) ?_);intro v' w1 hown' hgrow _;obtain⟨vp',vm',vc',rfl⟩:=ze4 hown';have hb1:zB (w.heap.size+2) wr w1:=((zM (w.heap.size+2) wr).alloc hsz _).grown hgrow (by simp;omega) (λq e=>(HS.out.own.lt q e).1);have hxb:=(hb1.block (w.heap.size+1) (by omega)).trans HS.out.xb;have k1:w1.cell? ⟨w.heap.size+1,1,none⟩=some v:=by simp[World.cell?,hxb]
      have k2:w1.frozen? ⟨w.heap.size+1,1,none⟩=false:=by simp[World.frozen?,hxb]
      have HN:=hid (HS.out.step x HX.out hown' hb1);clear hgrow hown' hb1 hxb c1 f1 hsz;go_wp2;go_roundw
      case rel=>exact⟨k+1,_,by have:=HE.out;show Value.int .i64 _=Value.int .i64 _;congr 1;omega,by omega,HN.out⟩
      case measure=>simp[zL];omega
   ·have hle:¬(0:Int)<(s.size:Int)-6*k:=by omega
    have hch:=CE.out k (by omega);obtain⟨vp,vm,vc,rfl⟩:=ze4 hS.own;have hlen:=zg0 n k;have hk2:k<=200:=by omega
    have hrr:=hS.r;obtain⟨r0,fr0,r1,fr1⟩:=hrr;obtain⟨-, -,c0⟩:=hS.c1;have T:=hid (zdq vp vm vc (zb0 n k) wr (Sl.of_own hS.own) (by rw[hlen];omega));have hst:Sl wr (.slice vp (zat (zb0 n k)).length vc) ((zat (zb0 n k)).map I):=Sl.of_own (zgz hS.own hlen);rw[zk1 hch] at T hst;have HST:=hid hst;have HB:=hid hS.bel;have hne:w.heap.size≠w.heap.size+1:=by omega
    have hne2:w.heap.size+1≠w.heap.size:=by omega
    clear hS hst hch hlen hlt hk hk2;go_wp21;refine zzM T.out λw9 hw9=>?_;have hw9':=hw9.symm;subst hw9';clear T hw9;generalize hLL:(zaa B6 n).length=LL at*
    have d0:=(zau _ (b:=w.heap.size) (b':=w.heap.size+1) 0 1 (.slice vp LL vc) hne).trans r0;have d1:=(zau _ (b:=w.heap.size) (b':=w.heap.size+1) 1 1 (.slice vp LL vc) hne).trans r1;have e1:=(World.cell?_setCell_other _ _ _ (.bool true) (show(⟨w.heap.size,0,none⟩:Addr)≠⟨w.heap.size,1,none⟩ by simp)).trans d1;have e0:=za9 (u:=.bool true) d0;have g0:=((World.cell?_setCell_other _ _ _ (.slice vp LL vc) (show(⟨w.heap.size,1,none⟩:Addr)≠⟨w.heap.size,0,none⟩ by simp)).trans e0);have g1:=(za9 (u:=.slice vp LL vc) e1);have hs1:=HST.out.set c1 (λx=>by simp[I]) (.slice vp LL vc);have hs2:=hs1.set d0 (λx=>by simp[I]) (.bool true);have hs3:=hid (hs2.set e1 (λx=>by simp[I]) (.slice vp LL vc));have hB3:=hid (((HB.out.setCell (p:=⟨w.heap.size+1,1,none⟩) (by show w.heap.size<=w.heap.size+1;omega) (.slice vp LL vc)).setCell (p:=⟨w.heap.size,0,none⟩) (zN _) (.bool true)).setCell (p:=⟨w.heap.size,1,none⟩) (zN _) (.slice vp LL vc));have G:=hid (⟨g0,g1⟩:_/\_);clear hs1 hs2 d0 d1 e0 e1 g0 g1;go_wp2;have g0:=G.out.1;have g1:=G.out.2;exact bodyPost_ret (v:=.agg #[.bool true,.slice vp LL vc]) (by simp[results,Tryz.results218,go_sem,g0,g1]) rfl ⟨_,rfl,hs3.out,hB3.out⟩
theorem zs2 (m:Bool) (p:Option Addr) (c:Nat) (w:zA):
 qJ 222 #[.agg #[.bool m,.slice p 0 c]] w (.string ⟨#[48]⟩):=by
 have hb1:qL w (w.alloc (.cells #[.bool m,.slice p 0 c] 254)):=(zM _ w).alloc (zN _) _;have HB:=hid hb1;clear hb1;go_enter Tryz.func222,Tryz.ntmps222;go_wp2;go_ret;exact⟨rfl,HB.out⟩
theorem zt0 (m:Bool) (vx:Value) (n:Nat) (w:zA) (hx:Sl w vx ((zaa B6 n).map I)) (lx:(zaa B6 n).length<=200):
 qJ 222 #[.agg #[.bool m,vx]] w (St (zE (sgn m n))):=by
 rcases Nat.eq_zero_or_pos n with rfl|h
 ·obtain⟨p,c,rfl, -⟩:=hx
  rw[zaz];have e:zE (sgn m 0)=[48]:=by rw[show sgn m 0=((0:Nat):Int) by cases m<;>simp[sgn],Str.zad];decide+kernel
  rw[e];exact zs2 m p c w
 ·exact ztn m vx n h w hx lx
theorem z1a (m:Bool) (vx:Value) (n:Nat) (w:zA) (hx:Sl w vx ((zaa B6 n).map I)) (lx:(zaa B6 n).length<=200) (hd:digs (sgn m n)<=300):
 qJ 221 #[.agg #[.bool m,vx]] w (.tuple #[St (zE (sgn m n)),.int .i64 0]):=by
 obtain⟨px,cx,rfl, -⟩:=id hx;simp only[List.length_map] at*
 obtain⟨W1,hW1⟩:=zzX (w.alloc (.cells #[.bool m,.slice px (zaa B6 n).length cx] 254));have hb1:qL w W1:=by rw[hW1];exact(zM _ w).alloc (zN _) _
 have hw:=zt0 m _ n W1 (hx.below hb1) lx;have hc:=λW=>zh6 (sgn m n) hd W;generalize (zaa B6 n).length=L at*
 generalize zE (sgn m n)=s at*
 have HW:=hid hw;have HC:=hid hc;have HB:=hid hb1;have HW1:=hid hW1;clear hw hc hb1 hW1 hx hd lx;go_enter Tryz.func221,Tryz.ntmps221;go_wp21;rw[<-HW1.out];refine zzM HW.out λw2 hb2=>?_;have HB2:=qT HB hb2;clear hb2;go_wp21;refine zzM (HC.out w2) λw3 hw3=>?_;subst hw3;go_wp21;go_ret2;exact⟨rfl,HB2.out⟩
theorem zve (z:Int) (k:Nat) (hk:0<k) (h:digs z<=6*k):(zaa B6 z.natAbs).length<=k:=by
 apply zfv (B:=B6) (by decide);have:=(za3 z (6*k) (by omega)).1 h;rwa [Nat.pow_mul] at this
theorem z0r {z:Int} {k:Nat} (hk:0<k) (h:(zE z).length<=k):z.natAbs<10^k:=
 (za3 z k hk).1 (zO (zbr z) h)
theorem zxx (x y:Int) (hx:(zE x).length<=17) (hy:(zE y).length<=17) (w:zA) (hw:Wd w):
 qJ 211 #[St (zE x),St (zE y)] w (.tuple #[St (zE (x+y)),.int .i64 0]):=by
 have ax:=z0r (by omega) hx;have ay:=z0r (by omega) hy;have c1:=λW=>zj7 x y (zO (zbr x) (by omega)) (zO (zbr y) (by omega)) W;have c2:=λW=>zth x y hx hy W;have c3:=zb3 (x+y) (by omega) (by omega) w hw;have e1:IntKind.i64.wrap (x+y)=x+y:=zI _ (by omega);generalize zE x=u at*
 generalize zE y=v at*
 generalize zE (x+y)=t at*
 have C1:=hid c1;have C2:=hid c2;have C3:=hid c3;clear c1 c2 c3 hx hy ax ay;go_enter Tryz.func211,Tryz.ntmps211;go_wp21;refine zzM (C1.out w) λw1 hw1=>?_;subst hw1;go_wp21;refine zzM (C2.out w1) λw2 hw2=>?_;subst hw2;go_wp21;refine zzM C3.out λw3 hb3=>?_;go_wp21;go_ret2;exact⟨rfl,hb3⟩
theorem z0g (x y:Int) (h:17<(zE x).length\/17<(zE y).length) (hx:digs x<=300) (hy:digs y<=300) (hz:digs (x+y)<=300) (w:zA):
 qJ 211 #[St (zE x),St (zE y)] w (.tuple #[St (zE (x+y)),.int .i64 0]):=by
 have c1:=λW=>zj7 x y hx hy W;have c2:=λW=>ztj x y h (zO (za7 x) (by omega)) (zO (za7 y) (by omega)) W;have c3:=λW=>znu x W (by omega);have c4:=λW=>znu y W (by omega);have bx:=zve x 50 (by omega) hx;have by':=zve y 50 (by omega) hy;have c5:=λvx vy W h1 h2=>ybh (decide (x<0)) (decide (y<0)) vx vy x.natAbs y.natAbs W h1 h2 (by omega) (by omega);rw[zcs,zcs] at c5;have c6:=λm v n (hs:sgn m n=x+y) W h1=>z1a m v n W h1 (by
  have:=zve (x+y) 50 (by omega) hz;rw[<-hs,zge] at this;omega) (by rw[hs];exact hz)
 have C1:=hid c1;have C2:=hid c2;have C3:=hid c3;have C4:=hid c4;have C5:=hid c5;have C6:=hid (show ∀m v n,sgn m n=x+y->∀W:zA,Sl W v ((zaa B6 n).map I)->qJ 221 #[.agg #[.bool m,v]] W (.tuple #[St (zE (x+y)),.int .i64 0]) from λm v n hs W h1=>by
  have:=c6 m v n hs W h1;rw[hs] at this;exact this)
 clear c1 c2 c3 c4 c5 c6 hx hy hz h bx by';generalize zE x=u at*
 generalize zE y=v at*
 generalize zE (x+y)=t at*
 generalize decide (x<0)=mx at*
 generalize decide (y<0)=my at*
 go_enter Tryz.func211,Tryz.ntmps211;go_wp21;refine zzM (C1.out w) λw1 hw1=>?_;subst hw1;go_wp21;refine(C2.out w1).mono ?_;rintro e w2 ⟨⟨a,b,rfl⟩,hw2⟩;subst hw2;go_wp21;refine(C3.out w2).mono ?_;rintro e w3 ⟨vx,rfl,hsx,hb3⟩;have H3:=hid (⟨hsx,hb3⟩:_/\_);clear hsx hb3;go_wp21;refine(C4.out w3).mono ?_;rintro e w4 ⟨vy,rfl,hsy,hb4⟩;have H4:=hid (⟨H3.out.1.below hb4,hsy,H3.out.2.trans (hb4.mono H3.out.2.size)⟩:_/\_/\_);clear hsy hb4 H3;go_wp21;refine(C5.out vx vy w4 H4.out.1 H4.out.2.1).mono ?_;rintro e w5 ⟨m,vz,n,rfl,hs,hsz,hb5⟩;have H5:=hid (⟨hs,hsz,H4.out.2.2.trans (hb5.mono H4.out.2.2.size)⟩:_/\_/\_);clear hs hsz hb5 H4;go_wp21;refine zzM (C6.out m vz n H5.out.1 w5 H5.out.2.1) λw6 hb6=>?_;have H6:=hid (H5.out.2.2.trans (hb6.mono H5.out.2.2.size));clear hb6 H5;go_wp21;go_ret2;exact⟨rfl,H6.out⟩
theorem yfa (x y:Int) (hx:digs x<=300) (hy:digs y<=300) (hz:digs (x+y)<=300) (w:zA) (hw:Wd w):
 qJ 211 #[St (zE x),St (zE y)] w (.tuple #[St (zE (x+y)),.int .i64 0]):=by
 by_cases h:17<(zE x).length\/17<(zE y).length
 ·exact z0g x y h hx hy hz w
 ·exact zxx x y (by omega) (by omega) w hw
theorem z9a (x y:Int) (hx:(zE x).length<=17) (hy:(zE y).length<=17) (hxy:(zE x).length+(zE y).length<=18) (w:zA) (hw:Wd w):
 qJ 152 #[St (zE x),St (zE y)] w (.tuple #[St (zE (x*y)),.int .i64 0]):=by
 have ax:=z0r (by omega) hx;have ay:=z0r (by omega) hy;have hux:(zE x).length<=17:=hx;have huy:(zE y).length<=17:=hy;have c1:=λW=>zj7 x y (zO (zbr x) (by omega)) (zO (zbr y) (by omega)) W;have c2:=λW=>zth x y hx hy W;have hp:(x*y).natAbs<1000000000000000000:=by
  rw[yK];have hlx:1<=(zE x).length:=zO (zbn x) (zbr x);have hly:1<=(zE y).length:=zO (zbn y) (zbr y);have h1:=z0r (z:=x) hlx (zN _);have h2:=z0r (z:=y) hly (zN _);have h3:=Nat.mul_lt_mul'' h1 h2;rw[<-Nat.pow_add] at h3;exact zS h3 (zO (yF (by omega) hxy) (by decide))
 have c3:=zb3 (x*y) (by omega) (by omega) w hw;have e1:IntKind.i64.wrap (x*y)=x*y:=zI _ (by omega);have hsum:((zE x).length:Int)+(zE y).length<=18:=by omega
 generalize zE x=u at*
 generalize zE y=v at*
 generalize zE (x*y)=t at*
 have C1:=hid c1;have C2:=hid c2;have C3:=hid c3;clear c1 c2 c3 hx hy ax ay hp hxy;go_enter Tryz.func152,Tryz.ntmps152;go_wp21;refine zzM (C1.out w) λw1 hw1=>?_;subst hw1;go_wp21;refine zzM (C2.out w1) λw2 hw2=>?_;subst hw2;go_wp21;refine zzM C3.out λw3 hb3=>?_;go_wp21;go_ret2;exact⟨rfl,hb3⟩
theorem z98 (x y:Int) (h:17<(zE x).length\/17<(zE y).length) (hx:digs x<=300) (hy:digs y<=300) (hz:digs (x*y)<=300) (w:zA):
 qJ 152 #[St (zE x),St (zE y)] w (.tuple #[St (zE (x*y)),.int .i64 0]):=by
 have c1:=λW=>zj7 x y hx hy W;have c2:=λW=>ztj x y h (zO (za7 x) (by omega)) (zO (za7 y) (by omega)) W;have c3:=λW=>znu x W (by omega);have c4:=λW=>znu y W (by omega);have bx:=zve x 50 (by omega) hx;have by':=zve y 50 (by omega) hy;have c5:=λvx vy W h1 h2=>z5f (decide (x<0)) (decide (y<0)) vx vy x.natAbs y.natAbs W h1 h2 (by omega) (by omega);rw[zcs,zcs] at c5;have c6:=λm v n (hs:sgn m n=x*y) W h1=>z1a m v n W h1 (by
  have:=zve (x*y) 50 (by omega) hz;rw[<-hs,zge] at this;omega) (by rw[hs];exact hz)
 have C1:=hid c1;have C2:=hid c2;have C3:=hid c3;have C4:=hid c4;have C5:=hid c5;have C6:=hid (show ∀m v n,sgn m n=x*y->∀W:zA,Sl W v ((zaa B6 n).map I)->qJ 221 #[.agg #[.bool m,v]] W (.tuple #[St (zE (x*y)),.int .i64 0]) from λm v n hs W h1=>by
  have:=c6 m v n hs W h1;rw[hs] at this;exact this)
 clear c1 c2 c3 c4 c5 c6 hx hy hz h bx by';generalize zE x=u at*
 generalize zE y=v at*
 generalize zE (x*y)=t at*
 generalize decide (x<0)=mx at*
 generalize decide (y<0)=my at*
 go_enter Tryz.func152,Tryz.ntmps152;go_wp21;refine zzM (C1.out w) λw1 hw1=>?_;subst hw1;go_wp21;refine(C2.out w1).mono ?_;rintro e w2 ⟨⟨a,b,rfl⟩,hw2⟩;subst hw2;go_wp21;refine(C3.out w2).mono ?_;rintro e w3 ⟨vx,rfl,hsx,hb3⟩;have H3:=hid (⟨hsx,hb3⟩:_/\_);clear hsx hb3;go_wp21;refine(C4.out w3).mono ?_;rintro e w4 ⟨vy,rfl,hsy,hb4⟩;have H4:=hid (⟨H3.out.1.below hb4,hsy,H3.out.2.trans (hb4.mono H3.out.2.size)⟩:_/\_/\_);clear hsy hb4 H3;go_wp21;refine(C5.out vx vy w4 H4.out.1 H4.out.2.1).mono ?_;rintro e w5 ⟨m,vz,n,rfl,hs,hsz,hb5⟩;have H5:=hid (⟨hs,hsz,H4.out.2.2.trans (hb5.mono H4.out.2.2.size)⟩:_/\_/\_);clear hs hsz hb5 H4;go_wp21;refine zzM (C6.out m vz n H5.out.1 w5 H5.out.2.1) λw6 hb6=>?_;have H6:=hid (H5.out.2.2.trans (hb6.mono H5.out.2.2.size));clear hb6 H5;go_wp21;go_ret2;exact⟨rfl,H6.out⟩
theorem ybj (x y:Int) (h1:(zE x).length<=17) (h2:(zE y).length<=17) (h:18<(zE x).length+(zE y).length) (hx:digs x<=300) (hy:digs y<=300) (hz:digs (x*y)<=300) (w:zA):
 qJ 152 #[St (zE x),St (zE y)] w (.tuple #[St (zE (x*y)),.int .i64 0]):=by
 have c1:=λW=>zj7 x y hx hy W;have c2:=λW=>zth x y h1 h2 W;have hsum:¬((zE x).length:Int)+(zE y).length<=18:=by omega
 have hux:(zE x).length<=17:=h1;have huy:(zE y).length<=17:=h2;have c3:=λW=>znu x W (by omega);have c4:=λW=>znu y W (by omega);have bx:=zve x 50 (by omega) hx;have by':=zve y 50 (by omega) hy;have c5:=λvx vy W h1 h2=>z5f (decide (x<0)) (decide (y<0)) vx vy x.natAbs y.natAbs W h1 h2 (by omega) (by omega);rw[zcs,zcs] at c5;have c6:=λm v n (hs:sgn m n=x*y) W h1=>z1a m v n W h1 (by
  have:=zve (x*y) 50 (by omega) hz;rw[<-hs,zge] at this;omega) (by rw[hs];exact hz)
 have C1:=hid c1;have C2:=hid c2;have C3:=hid c3;have C4:=hid c4;have C5:=hid c5;have C6:=hid (show ∀m v n,sgn m n=x*y->∀W:zA,Sl W v ((zaa B6 n).map I)->qJ 221 #[.agg #[.bool m,v]] W (.tuple #[St (zE (x*y)),.int .i64 0]) from λm v n hs W h1=>by
  have:=c6 m v n hs W h1;rw[hs] at this;exact this)
 clear c1 c2 c3 c4 c5 c6 hx hy hz h h1 h2 bx by';generalize zE x=u at*
 generalize zE y=v at*
 generalize zE (x*y)=t at*
 generalize decide (x<0)=mx at*
 generalize decide (y<0)=my at*
 go_enter Tryz.func152,Tryz.ntmps152;go_wp21;refine zzM (C1.out w) λw1 hw1=>?_;subst hw1;go_wp21;refine zzM (C2.out w1) λw2 hw2=>?_;subst hw2;go_wp21;refine(C3.out w2).mono ?_;rintro e w3 ⟨vx,rfl,hsx,hb3⟩;have H3:=hid (⟨hsx,hb3⟩:_/\_);clear hsx hb3;go_wp21;refine(C4.out w3).mono ?_;rintro e w4 ⟨vy,rfl,hsy,hb4⟩;have H4:=hid (⟨H3.out.1.below hb4,hsy,H3.out.2.trans (hb4.mono H3.out.2.size)⟩:_/\_/\_);clear hsy hb4 H3;go_wp21;refine(C5.out vx vy w4 H4.out.1 H4.out.2.1).mono ?_;rintro e w5 ⟨m,vz,n,rfl,hs,hsz,hb5⟩;have H5:=hid (⟨hs,hsz,H4.out.2.2.trans (hb5.mono H4.out.2.2.size)⟩:_/\_/\_);clear hs hsz hb5 H4;go_wp21;refine zzM (C6.out m vz n H5.out.1 w5 H5.out.2.1) λw6 hb6=>?_;have H6:=hid (H5.out.2.2.trans (hb6.mono H5.out.2.2.size));clear hb6 H5;go_wp21;go_ret2;exact⟨rfl,H6.out⟩
theorem z26 (x y:Int) (hx:digs x<=300) (hy:digs y<=300) (hz:digs (x*y)<=300) (w:zA) (hw:Wd w):
 qJ 152 #[St (zE x),St (zE y)] w (.tuple #[St (zE (x*y)),.int .i64 0]):=by
 by_cases h:17<(zE x).length\/17<(zE y).length
 ·exact z98 x y h hx hy hz w
 ·by_cases h2:(zE x).length+(zE y).length<=18
  ·exact z9a x y (by omega) (by omega) h2 w hw
  ·exact ybj x y (by omega) (by omega) (by omega) hx hy hz w
theorem z3m (x y:Int) (hx:(zE x).length<=17) (hy:(zE y).length<=17) (w:zA):
 qJ 228 #[St (zE x),St (zE y)] w (.tuple #[.int .i64 (cmpZ x y),.int .i64 0]):=by
 have c1:=λW=>zj7 x y (zO (zbr x) (by omega)) (zO (zbr y) (by omega)) W;have c2:=λW=>zth x y hx hy W;have C1:=hid c1;have C2:=hid c2;have CZ:=hid (show(x<y->cmpZ x y= -1)/\(y<x->cmpZ x y=1)/\(x=y->cmpZ x y=0) by
  unfold cmpZ;refine⟨λh=>?_,λh=>?_,λh=>?_⟩
  ·simp[h]
  ·have:¬x<y:=by omega
   have h2:¬x=y:=by omega
   simp[this,h]
  ·subst h;simp)
 clear c1 c2 hx hy;generalize zE x=u at*
 generalize zE y=v at*
 generalize cmpZ x y=z at*
 have hB:=hid (zM w.heap.size w);go_enter Tryz.func228,Tryz.ntmps228;go_wp21;refine zzM (C1.out w) λw1 hw1=>?_;subst hw1;go_wp21;refine zzM (C2.out w1) λw2 hw2=>?_;subst hw2;rcases Int.lt_trichotomy x y with h|h|h
 ·obtain rfl:=CZ.out.1 h
  go_wp21;go_ret2;exact⟨rfl,hB.out⟩
 ·obtain rfl:=CZ.out.2.2 h
  subst h;go_wp21;go_ret2;exact⟨rfl,hB.out⟩
 ·obtain rfl:=CZ.out.2.1 h
  have h2:¬x<y:=by omega
  go_wp21;go_ret2;exact⟨rfl,hB.out⟩
theorem z4l (x y:Int) (h:17<(zE x).length\/17<(zE y).length) (hx:digs x<=300) (hy:digs y<=300) (w:zA):
 qJ 228 #[St (zE x),St (zE y)] w (.tuple #[.int .i64 (cmpZ x y),.int .i64 0]):=by
 have c1:=λW=>zj7 x y hx hy W;have c2:=λW=>ztj x y h (zO (za7 x) (by omega)) (zO (za7 y) (by omega)) W;have c3:=λW=>znu x W (by omega);have c4:=λW=>znu y W (by omega);have bx:=zve x 50 (by omega) hx;have by':=zve y 50 (by omega) hy;have c7:=λvy W h1=>ybi (decide (y<0)) vy y.natAbs W h1 (by omega);rw[zcs] at c7;have c5:=λm' vx vy n' (hs:sgn m' n'= -y) W h1 h2=>ybh (decide (x<0)) m' vx vy x.natAbs n' W h1 h2 (by omega) (by have:=zge m' n';rw[hs,Int.natAbs_neg] at this;rw[<-this];omega);have C5:=hid (show ∀m' vx vy n',sgn m' n'= -y->∀W:zA,Sl W vx ((zaa B6 x.natAbs).map I)->Sl W vy ((zaa B6 n').map I)->zC zF 220 #[.agg #[.bool (decide (x<0)),vx],.agg #[.bool m',vy]] W (zsb W (x-y)) from λm' vx vy n' hs W h1 h2=>by
  have:=c5 m' vx vy n' hs W h1 h2;rw[zcs,hs] at this;exact this)
 have CZ:=hid (show(x<y->cmpZ x y= -1)/\(y<x->cmpZ x y=1)/\(x=y->cmpZ x y=0) by
  unfold cmpZ;refine⟨λh=>?_,λh=>?_,λh=>?_⟩
  ·simp[h]
  ·have:¬x<y:=by omega
   simp[this,h]
  ·subst h;simp)
 have C1:=hid c1;have C2:=hid c2;have C3:=hid c3;have C4:=hid c4;have C7:=hid c7;clear c1 c2 c3 c4 c5 c7 hx hy h bx by';generalize zE x=u at*
 generalize zE y=v at*
 generalize decide (x<0)=mx at*
 generalize decide (y<0)=my at*
 generalize cmpZ x y=z at*
 go_enter Tryz.func228,Tryz.ntmps228;go_wp21;refine zzM (C1.out w) λw1 hw1=>?_;subst hw1;go_wp21;refine(C2.out w1).mono ?_;rintro e w2 ⟨⟨a,b,rfl⟩,hw2⟩;subst hw2;go_wp21;refine(C3.out w2).mono ?_;rintro e w3 ⟨vx,rfl,hsx,hb3⟩;have H3:=hid (⟨hsx,hb3⟩:_/\_);clear hsx hb3;go_wp21;refine(C4.out w3).mono ?_;rintro e w4 ⟨vy,rfl,hsy,hb4⟩;have H4:=hid (⟨H3.out.1.below hb4,hsy,H3.out.2.trans (hb4.mono H3.out.2.size)⟩:_/\_/\_);clear hsy hb4 H3;go_wp21;refine(C7.out vy w4 H4.out.2.1).mono ?_;rintro e w5 ⟨m',vn,n',rfl,hs',hsn,hb5⟩;have H5:=hid (⟨H4.out.1.below hb5,hsn,H4.out.2.2.trans (hb5.mono H4.out.2.2.size),hs'⟩:_/\_/\_/\_);clear hsn hb5 hs' H4;go_wp21;refine(C5.out m' vx vn n' H5.out.2.2.2 w5 H5.out.1 H5.out.2.1).mono ?_;rintro e w6 ⟨m,vz,n,rfl,hs,hsz,hb6⟩;obtain⟨pz,cz,rfl, -⟩:=hsz;have hB6:=H5.out.2.2.1.trans (hb6.mono H5.out.2.2.1.size);have HB:=hid (hB6.alloc hB6.size (.cells #[.bool m,.slice pz ((zaa B6 n).map I).length cz] 254));have hl:((zaa B6 n).map I).length=0↔n=0:=by
  rw[List.length_map,List.length_eq_zero_iff];exact zbd (by decide) n
 generalize ((zaa B6 n).map I).length=L at*
 clear hb6 H5 hB6;rcases Nat.eq_zero_or_pos n with h0|h0
 ·have hL:L=0:=hl.2 h0
  obtain rfl:=CZ.out.2.2 (by rw[h0] at hs;cases m<;>simp[sgn] at hs<;>omega);subst hL;clear hl hs;go_wp21;go_ret2;exact⟨rfl,HB.out⟩
 ·have hL:((L:Int)==0)=false:=by rw[beq_eq_false_iff_ne];have:=hl.1;omega
  clear hl;cases m
  ·obtain rfl:=CZ.out.2.1 (by simp[sgn] at hs;omega)
   clear hs;go_wp21;go_ret2;exact⟨rfl,HB.out⟩
  ·obtain rfl:=CZ.out.1 (by simp[sgn] at hs;omega)
   clear hs;go_wp21;go_ret2;exact⟨rfl,HB.out⟩
theorem z5h (x y:Int) (hx:digs x<=300) (hy:digs y<=300) (w:zA):
 qJ 228 #[St (zE x),St (zE y)] w (.tuple #[.int .i64 (cmpZ x y),.int .i64 0]):=by
 by_cases h:17<(zE x).length\/17<(zE y).length
 ·exact z4l x y h hx hy w
 ·exact z3m x y (by omega) (by omega) w
theorem zt3 (x y:Int) (hx:(zE x).length<=17) (hy:(zE y).length<=17) (w:zA) (hw:Wd w):
 qJ 209 #[St (zE x),St (zE y)] w (.tuple #[St (zE (Int.gcd x y:Int)),.int .i64 0]):=by
 obtain⟨x1,x2⟩:=lt18 (zO hx (by omega));obtain⟨y1,y2⟩:=lt18 (zO hy (by omega));have hb:=λW=>zj7 x y (zO (zbf (by omega)) (by omega)) (zO (zbf (by omega)) (by omega)) W;have hs:=λW=>zth x y hx hy W;have HB:=hid hb;clear hb;have HS:=hid hs;clear hs hx hy;have HW:=hid hw;clear hw;obtain⟨g,hg⟩:=zzX (Int.gcd x y);rw[<-hg];have HG:=hid hg;clear hg;go_enter Tryz.func209,Tryz.ntmps209;go_wp21;refine zzM (HB.out w) λw1 hw1=>?_;have hw1':=hw1.symm;subst hw1';go_wp21;refine zzM (HS.out w) λw2 hw2=>?_;have hw2':=hw2.symm;subst hw2';have hB2:qL w w:=zM _ _;go_wp21;go_loopw [7,8] (λa b wr=>∃m n:Int,a=.int .i64 m/\b=.int .i64 n/\Hid (Int.gcd m n=g)/\(-1000000000000000000<m/\m<1000000000000000000)/\(-1000000000000000000<n/\n<1000000000000000000)/\Hid (qL w wr))
  (λ_ b _=>(zL b).natAbs)
 case atStart=>exact⟨x,y,rfl,rfl,HG.out.symm,⟨x1,x2⟩,⟨y1,y2⟩,hB2⟩
 case round=>
  clear x1 x2 y1 y2 hB2;obtain⟨m,n,rfl,rfl,hgm,⟨m1,m2⟩,⟨n1,n2⟩,hBr⟩:=hrel;by_cases h0:n=0
  ·subst h0
   have hgm':Int.gcd m 0=g:=hgm.out;rw[Int.gcd_zero_right] at hgm';have hmx:max m (-m)=(g:Int):=by omega
   have HM:=hid hgm';clear hgm hgm';have hg1:(g:Int)<=1000000000000000000:=by omega
   have hneg:IntKind.i64.wrap (-m)= -m:=zI _ (by omega);go_wp21;refine zzM (zb3 (g:Int) (by omega) (by omega) wr (HW.out.below hBr.out)) λw3 hb3=>?_;have hB3:=hBr.out.trans (hb3.mono hBr.out.size);clear hb3;go_wp21;go_ret2;exact⟨rfl,hB3⟩
  ·have hn0:(n !=0)=true:=by simpa using h0
   have ht1:(m.tmod n).natAbs<n.natAbs:=by rw[Int.natAbs_tmod];exact zP _ (by omega)
   obtain⟨t,ht⟩:=zzX (m.tmod n);have hgt:=zmt m n;rw[<-ht] at ht1 hgt;have hwr:IntKind.i64.wrap (m.tmod n)=t:=by rw[<-ht];exact zI _ (by omega)
   have HGT:=hid hgt;have HT:=hid ht;clear hgt ht hwr;go_wp2
   (refine wp_region_quiet_lit (by kernel_rfl) (by kernel_rfl) (WQ.out ?_);(repeat(first|(apply WQ.read (by rfl);(focus(rintro W ⟨n,rfl⟩;go_simp;try with_reducible rfl));try simp only[zzQ])|(apply WQ.skip (by rfl);try simp only[zzQ])));refine WQ.nil ?_;rintro _ ⟨nq,rfl⟩)
   go_wp2;go_roundw
   case rel=>exact⟨n,t,rfl,by rw[HT.out],HGT.out.trans hgm.out,⟨n1,n2⟩,by omega,zao hBr.out _⟩
   case measure=>show(m.tmod n).natAbs<n.natAbs;rw[<-HT.out];exact ht1
theorem zld (b:Bool) (p:Option Addr) (k c:Nat) (W:zA):(Instr.field 254 (.agg #[.bool b,.slice p k c]) 1).run zF W=.ok (.slice p k c) W:=by kernel_rfl
theorem zvf (x y:Int) (hx:digs x<=300) (hy:digs y<=300) (h:17<(zE x).length\/17<(zE y).length) (w:zA) (hw:Wd w):
 qJ 209 #[St (zE x),St (zE y)] w (.tuple #[St (zE (Int.gcd x y:Int)),.int .i64 0]):=by
 have hb:=λW=>zj7 x y hx hy W;have hs:=λW=>ztj x y h (zO (za7 x) (by omega)) (zO (za7 y) (by omega)) W;have r1:=λW=>znu x W (by omega);have r2:=λW=>znu y W (by omega);have l1:=zO (zve x 50 (by omega) hx) (show 50<=100 by omega);have l2:=zO (zve y 50 (by omega) hy) (show 50<=100 by omega);have hgd:=zq4 x y hx hy;have HB:=hid hb;clear hb;have HS:=hid hs;clear hs hx hy h;have HW:=hid hw;clear hw;have R1:=hid r1;have R2:=hid r2;clear r1 r2;obtain⟨g,hg⟩:=zzX (Int.gcd x y);rw[<-hg] at hgd⊢;have HG:=hid hg;clear hg;have hfd:=zld;go_enter Tryz.func209,Tryz.ntmps209;go_wp21;refine zzM (HB.out w) λw1 hw1=>?_;have hw1':=hw1.symm;subst hw1';go_wp21;refine(HS.out w).mono ?_;rintro e w2 ⟨⟨za,zb,rfl⟩,hw2⟩;have hw2':=hw2.symm;subst hw2';go_wp21;refine(R1.out w).mono ?_;rintro e w2 ⟨vx,rfl,hvx,hb2⟩;have hB2:=hb2;clear hb2;obtain⟨px,kx,cx,rfl, -⟩:=zbx hvx;have HVX:=hid hvx;clear hvx;go_wp21;refine(R2.out w2).mono ?_;rintro e w3 ⟨vy,rfl,hvy,hb3⟩;have hvx:=HVX.out.below hb3;have hB3:=hB2.trans (hb3.mono hB2.size);clear hb3 hB2 HVX;obtain⟨py,ky,cy,rfl, -⟩:=zbx hvy;have HVX:=hid hvx;have HVY:=hid hvy;clear hvx hvy;go_wp2;go_loopg [10,11] y.natAbs (λk va vb wr=>∃a b p kb c,vb=.slice p kb c/\Hid (k=b)/\Hid (kb=(zaa B6 b).length)/\(zaa B6 a).length<=100/\(zaa B6 b).length<=100/\Hid (Sl wr va ((zaa B6 a).map I))/\Hid (Sl wr vb ((zaa B6 b).map I))/\Hid (Nat.gcd a b=g)/\Hid (qL w wr))
 case atStart=>
  obtain⟨p,k,c,e,hk⟩:=zbx HVY.out;cases e;exact⟨x.natAbs,y.natAbs,py,ky,cy,rfl,rfl,hk,l1,l2,HVX.out,HVY.out,HG.out.symm,hB3⟩
 case round=>
  clear HVX HVY hB3;obtain⟨a,b,p,kb,c,rfl,hk,hkb,la,lb,hva,hvb,hgc,hBr⟩:=hrel;by_cases h0:kb=0
  ·have hb0:b=0:=(zbd (B:=B6) (by decide) b).1 (List.length_eq_zero_iff.1 (by rw[<-hkb.out];exact h0))
   have hga:a=g:=by have:=hgc.out;rw[hb0,Nat.gcd_zero_right] at this;exact this
   have hz0:¬(0:Int)<kb:=by omega
   have HA:=hid hga;clear hga;have HB0:=hid hb0;clear hb0;have HK0:=hid h0;clear h0;obtain⟨p1,k1,c1,rfl, -⟩:=zbx hva.out;have hres:=zt0 false _ a wr hva.out (by omega);rw[zkw,HA.out] at hres;have HRES:=hid hres;clear hres;go_wp21;refine zzM HRES.out λw4 hb4=>?_;have hB4:=hBr.out.trans (hb4.mono hBr.out.size);clear hb4;go_wp21;go_ret2;exact⟨rfl,hB4⟩
  ·have hz0:(0:Int)<kb:=by omega
   have hb0:b≠0:=λe=>h0 (by rw[hkb.out,e,zaz];rfl);go_wp21;refine(zs1 _ (.slice p kb c) a b wr hva.out hvb.out (by omega) (by omega) (yS hb0)).mono ?_;rintro e w4 ⟨v1,v2,rfl,hs1,hs2,hb4⟩;have hB4:=hBr.out.trans (hb4.mono hBr.out.size);have hvb4:=hvb.out.below hb4;obtain⟨p2,k2,c2,rfl,hk2⟩:=zbx hs2;have HS2:=hid hs2;have HB4:=hid hB4;have HVB:=hid hvb4;have HK2:=hid hk2;have HB0:=hid hb0;clear hs1 hs2 hb4 hB4 hvb4 hk2 hb0 hva hvb hBr;go_wp2;go_roundg (a%b)
   case measure=>rw[hk.out];exact zP _ (yS HB0.out)
   case rel=>exact⟨b,a%b,p2,k2,c2,rfl,rfl,HK2.out,lb,zO (zd6 (by decide) (Nat.le_of_lt (zP _ (yS HB0.out)))) lb,HVB.out,HS2.out,(zkx a b).trans hgc.out,HB4.out⟩
theorem zxp (x y:Int) (hx:digs x<=300) (hy:digs y<=300) (w:zA) (hw:Wd w):
 qJ 209 #[St (zE x),St (zE y)] w (.tuple #[St (zE (Int.gcd x y:Int)),.int .i64 0]):=by
 by_cases h:17<(zE x).length\/17<(zE y).length
 ·exact zvf x y hx hy h w hw
 ·exact zt3 x y (by omega) (by omega) w hw
theorem z4m (x y q:Int) (hq:x=q*y) (hy0:0<y) (hx:(zE x).length<=17) (hy:(zE y).length<=17) (w:zA) (hw:Wd w):
 qJ 151 #[St (zE x),St (zE y)] w (.tuple #[St (zE q),St [48],.int .i64 0]):=by
 obtain⟨x1,x2⟩:=lt18 (zO hx (by omega));obtain⟨y1,y2⟩:=lt18 (zO hy (by omega));have hb:=λW=>zj7 x y (zO (zbf (by omega)) (by omega)) (zO (zbf (by omega)) (by omega)) W;have hs:=λW=>zth x y hx hy W;have hqa:q.natAbs<=x.natAbs:=by rw[hq,yK];exact Nat.le_mul_of_pos_right _ (by omega)
 have hit:=λW hW=>zb3 q (by omega) (by omega) W hW;have hiz:=λW hW=>zb3 0 (by omega) (by omega) W hW;have hd:x.tdiv y=q:=by rw[hq];exact Int.mul_tdiv_cancel _ (by omega)
 have hm:x.tmod y=0:=by rw[hq];exact Int.mul_tmod_left _ _
 have w1:IntKind.i64.wrap (x.tdiv y)=q:=by rw[hd];exact zI _ (by omega)
 have w2:IntKind.i64.wrap (x.tmod y)=0:=by rw[hm];rfl
 rw[zb9] at hiz;have hyn:(zE y==[48])=false:=by rw[beq_eq_false_iff_ne,<-zb9];exact λh=>by have:=zdo h;omega
 have hne:¬zE y=[48]:=by simpa using hyn
 have hy1:¬y=0:=by omega
 have HB:=hid hb;clear hb;have HIT:=hid hit;clear hit;have HIZ:=hid hiz;clear hiz;have HS:=hid hs;have HQD:=hid hd;have HMD:=hid hm;clear hs hx hy hq hd hm hqa;have HW:=hid hw;clear hw;go_enter Tryz.func151,Tryz.ntmps151;go_wp21;refine zzM (HB.out w) λw3 hw3=>?_;have hw3':=hw3.symm;subst hw3';go_wp21;refine zzM (HS.out w) λw4 hw4=>?_;have hw4':=hw4.symm;subst hw4';have hB2:qL w w:=zM _ _;go_wp21
 (refine wp_region_quiet_lit (by kernel_rfl) (by kernel_rfl) (WQ.out ?_);(repeat(first|(apply WQ.read (by rfl);(focus(rintro W ⟨n,rfl⟩;go_simp;try with_reducible rfl));try simp only[zzQ])|(apply WQ.skip (by rfl);try simp only[zzQ])));refine WQ.nil ?_;rintro _ ⟨nq,rfl⟩)
 go_wp21;have hB3:=zao hB2 nq;refine zzM (HIT.out (w.drewN nq) (HW.out.below hB3)) λw5 hb5=>?_;have hB5:=hB3.trans (hb5.mono hB3.size);clear hb5 hB3 hB2;go_wp21;refine zzM (HIZ.out w5 (HW.out.below hB5)) λw6 hb6=>?_;have hB6:=hB5.trans (hb6.mono hB5.size);clear hb6 hB5;go_wp21;go_ret3;exact⟨rfl,hB6⟩
theorem z5i (x y q:Int) (hq:x=q*y) (hy0:0<y) (hx:digs x<=300) (hy:digs y<=300) (h:17<(zE x).length\/17<(zE y).length) (w:zA):
 qJ 151 #[St (zE x),St (zE y)] w (.tuple #[St (zE q),St [48],.int .i64 0]):=by
 have c1:=λW=>zj7 x y hx hy W;have c2:=λW=>ztj x y h (zO (za7 x) (by omega)) (zO (za7 y) (by omega)) W;have c3:=λW=>znu x W (by omega);have c4:=λW=>znu y W (by omega);have bx:=zve x 50 (by omega) hx;have by':=zve y 50 (by omega) hy;have c5:=λvx vy W h1 h2=>zs1 vx vy x.natAbs y.natAbs W h1 h2 (by omega) (by omega) (by omega);obtain⟨hsq,hr0⟩:=ztx x y q hq hy0;have hyf:decide (y<0)=false:=by simp;omega
 rw[hyf,Bool.bne_false] at hsq;rw[hr0,zaz] at c5;have hdq:digs q<=300:=by
  rw[za3 _ _ (by omega)] at hx⊢;have hqa:q.natAbs<=x.natAbs:=by rw[hq,yK];exact Nat.le_mul_of_pos_right _ (by omega)
  omega
 have hmx:decide (x<0)=true->¬(zaa B6 (x.natAbs/y.natAbs)).length=0:=λhm h0=>by
  have h1:=(zbd (B:=B6) (by decide) _).1 (List.length_eq_zero_iff.1 h0);rw[h1] at hsq;have:q=0:=by rw[<-hsq];cases decide (x<0)<;>simp[sgn]
  rw[this] at hq;simp at hm;omega
 have c6:=λv W h1=>z1a (decide (x<0)) v (x.natAbs/y.natAbs) W h1 (by
  have:=zve q 50 (by omega) hdq;rw[<-hsq,zge] at this;omega) (by rw[hsq];exact hdq)
 rw[hsq] at c6;rw[hyf] at c4;have hyn:(zE y==[48])=false:=by rw[beq_eq_false_iff_ne,<-zb9];exact λh=>by have:=zdo h;omega
 have hne:¬zE y=[48]:=by simpa using hyn
 have C1:=hid c1;have C2:=hid c2;have C3:=hid c3;have C4:=hid c4;have C5:=hid c5;have C6:=hid c6;have HMX:=hid hmx;clear c1 c2 c3 c4 c5 c6 hx hy h bx by' hq hy0 hsq hr0 hyf hdq hmx;generalize zE x=u at*
 generalize zE y=v at*
 generalize zE q=t at*
 generalize decide (x<0)=mx at*
 go_enter Tryz.func151,Tryz.ntmps151;go_wp21;refine zzM (C1.out w) λw1 hw1=>?_;have hw1':=hw1.symm;subst hw1';go_wp21;refine(C2.out w).mono ?_;rintro e w2 ⟨⟨a,b,rfl⟩,hw2⟩;have hw2':=hw2.symm;subst hw2';go_wp21;refine(C3.out w).mono ?_;rintro e w3 ⟨vx,rfl,hsx,hb3⟩;have H3:=hid (⟨hsx,hb3⟩:_/\_);clear hsx hb3;go_wp21;refine(C4.out w3).mono ?_;rintro e w4 ⟨vy,rfl,hsy,hb4⟩;have hsx:=H3.out.1.below hb4;have hB4:=H3.out.2.trans (hb4.mono H3.out.2.size);clear hb4 H3;obtain⟨px,kx,cx,rfl, -⟩:=zbx hsx;obtain⟨py,ky,cy,rfl, -⟩:=zbx hsy;obtain⟨w5,hw5⟩:=zzX ((w4.alloc (.cells #[.bool mx,.slice px kx cx] 254)).alloc (.cells #[.bool false,.slice py ky cy] 254));have hb5:qL w4 w5:=by rw[hw5];exact((zM _ w4).alloc (zN _) _).alloc (by simp) _
 have a13:w5.heap[w4.heap.size]? =some (.cells #[.bool mx,.slice px kx cx] 254 (0,0)):=by
  rw[hw5];exact(Below.heap_alloc _ _ _ (by simp only[zH];omega)).trans (heap_alloc_new w4 _)
 have a14:w5.heap[w4.heap.size+1]? =some (.cells #[.bool false,.slice py ky cy] 254 (0,0)):=by
  rw[hw5];have:=heap_alloc_new (w4.alloc (.cells #[.bool mx,.slice px kx cx] 254)) (.cells #[.bool false,.slice py ky cy] 254);rwa [zH] at this
 have hz5:w5.heap.size=w4.heap.size+2:=by rw[hw5];simp
 have H5:=hid (⟨hsx.below hb5,hsy.below hb5,hB4.trans (hb5.mono hB4.size),a13,a14,hz5⟩:_/\_/\_/\_/\_/\_);have HW5:=hid hw5;clear hsx hsy hB4 hb5 a13 a14 hz5 hw5;go_wp21;rw[<-HW5.out];refine(C5.out _ _ w5 H5.out.1 H5.out.2.1).mono ?_;rintro e w6 ⟨v1,v2,rfl,hs1,hs2,hb6⟩;obtain⟨p1,k1,cc1,rfl,hk1⟩:=zbx hs1;obtain⟨p2,cc2,rfl, -⟩:=id hs2;have a13:=(hb6.block w4.heap.size (by have:=H5.out.2.2.2.2.2;omega)).trans H5.out.2.2.2.1;have a14:=(hb6.block (w4.heap.size+1) (by have:=H5.out.2.2.2.2.2;omega)).trans H5.out.2.2.2.2.1;have n0:w6.cell? ⟨w4.heap.size,0,none⟩=some (.bool mx):=by simp[World.cell?,a13]
 have n1:w6.cell? ⟨w4.heap.size+1,0,none⟩=some (.bool false):=by simp[World.cell?,a14]
 obtain⟨w7,hw7⟩:=zzX ((w6.alloc (.cells #[.bool mx,.slice p1 k1 cc1] 254)).alloc (.cells #[.bool false,.slice p2 0 cc2] 254));have hb7:qL w6 w7:=by rw[hw7];exact((zM _ w6).alloc (zN _) _).alloc (by simp) _
 have a17:w7.heap[w6.heap.size]? =some (.cells #[.bool mx,.slice p1 k1 cc1] 254 (0,0)):=by
  rw[hw7];exact(Below.heap_alloc _ _ _ (by simp only[zH];omega)).trans (heap_alloc_new w6 _)
 have a18:w7.heap[w6.heap.size+1]? =some (.cells #[.bool false,.slice p2 0 cc2] 254 (0,0)):=by
  rw[hw7];have:=heap_alloc_new (w6.alloc (.cells #[.bool mx,.slice p1 k1 cc1] 254)) (.cells #[.bool false,.slice p2 0 cc2] 254);rwa [zH] at this
 have hz7:w7.heap.size=w6.heap.size+2:=by rw[hw7];simp
 have hB7:qL w w7:=(H5.out.2.2.1.trans (hb6.mono H5.out.2.2.1.size)).trans (hb7.mono (zO H5.out.2.2.1.size hb6.size));have d0:w7.cell? ⟨w6.heap.size,0,none⟩=some (.bool mx):=by simp[World.cell?,a17]
 have d1:w7.cell? ⟨w6.heap.size,1,none⟩=some (.slice p1 k1 cc1):=by simp[World.cell?,a17]
 have H7:=hid (⟨hs1.below hb7,hB7,a18,hz7⟩:_/\_/\_/\_);have HW7:=hid hw7;have hkk:mx=true->(0:Int)<k1:=λhm=>by have:=HMX.out hm;omega
 have HKK:=hid hkk;clear hs1 hs2 hb6 hk1 a13 a14 hb7 a17 a18 hz7 hB7 hw7 hkk HMX H5 HW5 hyn hne;cases mx
 ·go_wp21
  rw[<-HW7.out];refine zzM (C6.out _ w7 H7.out.1) λw8 hb8=>?_;have a18:=(hb8.block (w6.heap.size+1) (by have:=H7.out.2.2.2;omega)).trans H7.out.2.2.1;have g0:w8.cell? ⟨w6.heap.size+1,0,none⟩=some (.bool false):=by simp[World.cell?,a18]
  have g1:w8.cell? ⟨w6.heap.size+1,1,none⟩=some (.slice p2 0 cc2):=by simp[World.cell?,a18]
  have HB8:=hid (H7.out.2.1.trans (hb8.mono H7.out.2.1.size));clear a18 hb8;go_wp21;refine zzM (zs2 false p2 cc2 w8) λw9 hb9=>?_;have HB9:=qT HB8 hb9;clear hb9;go_wp21;go_ret3;exact⟨rfl,HB9.out⟩
 ·have hk1:=HKK.out rfl
  have hkd:decide (0<k1)=true:=decide_eq_true (by omega);go_wp21;rw[<-HW7.out];refine zzM (C6.out _ w7 H7.out.1) λw8 hb8=>?_;have a18:=(hb8.block (w6.heap.size+1) (by have:=H7.out.2.2.2;omega)).trans H7.out.2.2.1;have g0:w8.cell? ⟨w6.heap.size+1,0,none⟩=some (.bool false):=by simp[World.cell?,a18]
  have g1:w8.cell? ⟨w6.heap.size+1,1,none⟩=some (.slice p2 0 cc2):=by simp[World.cell?,a18]
  have HB8:=hid (H7.out.2.1.trans (hb8.mono H7.out.2.1.size));clear a18 hb8;go_wp21;refine zzM (zs2 false p2 cc2 w8) λw9 hb9=>?_;have HB9:=qT HB8 hb9;clear hb9;go_wp21;go_ret3;exact⟨rfl,HB9.out⟩
theorem z14 (x y q:Int) (hq:x=q*y) (hy0:0<y) (hx:digs x<=300) (hy:digs y<=300) (w:zA) (hw:Wd w):
 qJ 151 #[St (zE x),St (zE y)] w (.tuple #[St (zE q),St [48],.int .i64 0]):=by
 by_cases h:17<(zE x).length\/17<(zE y).length
 ·exact z5i x y q hq hy0 hx hy h w
 ·exact z4m x y q hq hy0 (by omega) (by omega) w hw
theorem zrk (l:List UInt8) (hd:∀c∈l,48<=c.toNat/\c.toNat<=57) (hl:l.length<=18) (w:zA):
 zC zF 208 #[St l] w λe w'=>e=.returned (I (val l))/\w'=w:=by
 obtain⟨s,hs⟩:=zzX (⟨l.toArray⟩:ByteArray);obtain⟨b1,b2⟩:=zds l s hs;have hvt:=λk hk=>zhb (l:=l) hd (k:=k) hk;have hst:∀k (hb:k<s.size),48<=(s[k]'hb).toNat/\(s[k]'hb).toNat<=57/\val (l.take (k+1))=10*val (l.take k)+((s[k]'hb).toNat-48):=λk hb=>by
  have hk:k<l.length:=by omega
  rw[b2 k hk hb,List.take_succ_eq_append_getElem hk,zde];exact⟨(hd _ (zY hk)).1,(hd _ (zY hk)).2,rfl⟩
 have hfull:val (l.take s.size)=val l:=by rw[b1,List.take_length]
 show zC _ _ #[.string ⟨l.toArray⟩] _ _;rw[<-hs];have hs9:s.size<=18:=by omega
 generalize hvf:(λk=>val (l.take k))=vf at*
 have hvt':∀k,k<=17->vf k<100000000000000000:=by rw[<-hvf];exact hvt
 have hst':∀k (hb:k<s.size),48<=(s[k]'hb).toNat/\(s[k]'hb).toNat<=57/\vf (k+1)=10*vf k+((s[k]'hb).toNat-48):=by rw[<-hvf];exact hst
 have hfull':vf s.size=val l:=by rw[<-hvf];exact hfull
 have hv0:vf 0=0:=by rw[<-hvf];rfl
 generalize val l=vl at*
 have VT:=hid hvt';have ST:=hid hst';have HF:=hid hfull';have V0:=hid hv0;clear hvt' hst' hfull' hv0 hvt hst hfull hvf b1 b2 hs hd hl;go_enter Tryz.func208,Tryz.ntmps208;go_wp2;go_loop [3,4] (λa i=>∃k:Nat,k<=s.size/\i=.int .i64 k/\a=.int .i64 (vf k:Nat)) (λ_ i=>s.size-(zL i).toNat)
 case atStart=>exact⟨0,zR _,rfl,by rw[V0.out];rfl⟩
 case round=>
  obtain⟨k,hk,rfl,rfl⟩:=hrel;by_cases hlt:k<s.size
  ·obtain⟨c1,c2,c3⟩:=ST.out k hlt
   have hv:=VT.out k (by omega);generalize vf k=v at*
   have C3:=hid c3;clear c3;have d1:(48:Int)<=(s[k].toNat:Int):=by omega
   have d2:(s[k].toNat:Int)<=57:=by omega
   go_wp2;go_round
   case rel=>exact⟨k+1,by omega,by go_num,by rw[C3.out];show Value.int .i64 _=Value.int .i64 _;congr 1;omega⟩
   case measure=>simp[zL];omega
  ·have hk':k=s.size:=by omega
   have HK:=hid hk';clear hk';go_wp2;go_ret;exact⟨by rw[HK.out,HF.out];rfl,rfl⟩
theorem zq6 (n:Nat) (t:List UInt8):(zD n++47::t).takeWhile (· !=47)=zD n/\((zD n++47::t).dropWhile (· !=47)).tail=t:=by
 have h:∀c∈zD n,(c !=47)=true:=λc hc=>by
  have:=zan n c hc;simp;intro e;subst e;simp at this
 constructor
 ·rw[List.takeWhile_append_of_pos h];simp
 ·rw[List.dropWhile_append_of_pos h];simp
theorem znx (n:Nat):(zD n).takeWhile (· !=47)=zD n/\((zD n).dropWhile (· !=47)).tail=[]:=by
 have h:∀c∈zD n,(c !=47)=true:=λc hc=>by
  have:=zan n c hc;simp;intro e;subst e;simp at this
 constructor
 ·have:=List.takeWhile_append_of_pos (p:=λx:UInt8=>x !=47) (l₁:=zD n) (l₂:=[]) h
  simpa using this
 ·have:=List.dropWhile_append_of_pos (p:=λx:UInt8=>x !=47) (l₁:=zD n) (l₂:=[]) h
  rw[yH] at this;rw[this];rfl
def denS (q:Rat):List UInt8:=if q.den=1 then[] else zD q.den
theorem zvg (q:Rat):upS (numS q)=zD q.num.natAbs/\dnS (numS q)=denS q/\((numS q).head? =some 45↔q.num<0)/\((47:UInt8)∈bare (numS q)↔q.den≠1):=by
 have hb:bare (numS q)=zD q.num.natAbs++(if q.den=1 then[] else 47::zD q.den):=zhw _ _;unfold upS dnS denS;rw[hb];refine⟨?_,?_,zk2 _ _,?_⟩
 ·by_cases h:q.den=1
  ·rw[if_pos h,yH];exact(znx _).1
  ·rw[if_neg h];exact(zq6 _ _).1
 ·by_cases h:q.den=1
  ·rw[if_pos h,if_pos h,yH];exact(znx _).2
  ·rw[if_neg h,if_neg h];exact(zq6 _ _).2
 ·by_cases h:q.den=1
  ·rw[if_pos h,yH]
   exact⟨λk=>absurd k (zdz _),λk=>absurd h k⟩
  ·rw[if_neg h]
   exact⟨λ_=>h,λ_=>by simp⟩
def okN (q:Rat):Prop:=digs q.num<=300/\(zD q.den).length<=300
theorem z8i {q:Rat} (h:okN q):(numS q).length<=1000:=by
 have h1:=za7 q.num;obtain⟨h2,h3⟩:=h;unfold numS;rw[List.length_append];split
 ·simp;omega
 ·simp;omega
theorem z1x (q:Rat) (h:okN q) (w:zA):
 qJ 205 #[St (numS q)] w (.tuple #[.bool (decide (q.num<0)),St (zD q.num.natAbs),St (denS q),.bool (decide (q.den≠1))]):=by
 obtain⟨h1,h2,h3,h4⟩:=zvg q;have hc:=zlq (numS q) (zO (z8i h) (by omega)) w;rw[h1,h2,show decide ((numS q).head? =some 45)=decide (q.num<0) by rw[decide_eq_decide];exact h3,show decide ((47:UInt8)∈bare (numS q))=decide (q.den≠1) by rw[decide_eq_decide];exact h4] at hc;exact hc
theorem zre (q:Rat) (h:okN q) (w:zA):
 qJ 146 #[St (numS q)] w (.tuple #[St (zE q.num),St (zD q.den)]):=by
 have hc:=z1x q h w;have hl:(zD q.num.natAbs).length<=300:=h.1;have hn:zE q.num=if q.num<0 then 45::zD q.num.natAbs else zD q.num.natAbs:=by
  rcases zbg q.num with⟨k,e⟩|⟨k,e⟩<;>rw[e]
  ·rw[if_neg (by omega)]
  ·rw[if_pos k]
 have hd:q.den=1->zD q.den=[49]:=λe=>by rw[e];decide+kernel
 have hd2:q.den≠1->denS q=zD q.den:=λe=>by unfold denS;rw[if_neg e]
 have HC:=hid hc;have HN:=hid hn;have HD:=hid hd;have HD2:=hid hd2;clear hc hn hd hd2 h;generalize zD q.num.natAbs=a at*
 generalize numS q=s at*
 have f1:¬(9223372036854775807<1+a.length):=by omega
 by_cases hm:q.num<0<;>by_cases h1:q.den=1
 ·rw[decide_eq_true hm,decide_eq_false (by simpa using h1)] at HC
  rw[if_pos hm] at HN;have hdd:=HD.out h1;clear hm h1 HD HD2;rw[hdd];clear hdd;generalize zE q.num=nn at*
  generalize zD q.den=dd at*
  generalize denS q=ds at*
  go_enter Tryz.func146,Tryz.ntmps146;go_wp21;refine zzM HC.out λw1 hb=>?_;go_wp21;go_ret2;refine⟨?_,hb⟩;rw[HN.out];show Ending.returned (.tuple #[.string (_++_),.string _])=_;rw[ztl]
 ·rw[decide_eq_true hm,decide_eq_true (by simpa using h1)] at HC
  rw[if_pos hm] at HN;have hdd:=HD2.out h1;rw[hdd] at HC;clear hm h1 HD HD2 hdd;generalize zE q.num=nn at*
  generalize zD q.den=dd at*
  generalize denS q=ds at*
  go_enter Tryz.func146,Tryz.ntmps146;go_wp21;refine zzM HC.out λw1 hb=>?_;go_wp21;go_ret2;refine⟨?_,hb⟩;rw[HN.out];show Ending.returned (.tuple #[.string (_++_),.string _])=_;rw[ztl]
 ·rw[decide_eq_false hm,decide_eq_false (by simpa using h1)] at HC
  rw[if_neg hm] at HN;have hdd:=HD.out h1;clear hm h1 HD HD2;rw[hdd];clear hdd;generalize zE q.num=nn at*
  generalize zD q.den=dd at*
  generalize denS q=ds at*
  go_enter Tryz.func146,Tryz.ntmps146;go_wp21;refine zzM HC.out λw1 hb=>?_;go_wp21;go_ret2;exact⟨by rw[HN.out];rfl,hb⟩
 ·rw[decide_eq_false hm,decide_eq_true (by simpa using h1)] at HC
  rw[if_neg hm] at HN;have hdd:=HD2.out h1;rw[hdd] at HC;clear hm h1 HD HD2 hdd;generalize zE q.num=nn at*
  generalize zD q.den=dd at*
  generalize denS q=ds at*
  go_enter Tryz.func146,Tryz.ntmps146;go_wp21;refine zzM HC.out λw1 hb=>?_;go_wp21;go_ret2;exact⟨by rw[HN.out];rfl,hb⟩
theorem zt4 (x u v:ByteArray) (m sl b1 b2 z1 z2 z3:Bool) (hz:(300:Int)<u.size\/(¬(300:Int)<u.size/\(300:Int)<v.size))
 (e1:(v.toList==[48])=z1) (e2:(v.toList==[49])=z2) (e3:(u.toList==[48])=z3)
 (SP:Hid (∀W:zA,qJ 205 #[.string x] W (.tuple #[.bool m,.string u,.string v,.bool sl])))
 (D1:Hid (∀W:zA,zC zF 206 #[.string u] W λe w'=>e=.returned (.bool b1)/\w'=W))
 (D2:Hid (∀W:zA,zC zF 206 #[.string v] W λe w'=>e=.returned (.bool b2)/\w'=W))
 (w:zA):
 zC zF 139 #[.string x] w λe w'=>∃r:Int,e=.returned (.int .i64 r)/\r≠0/\zB w.heap.size w w':=by
 go_enter Tryz.func139,Tryz.ntmps139;go_wp21;refine zzM (SP.out w) λw1 hB=>?_;go_wp21;refine zzM (D1.out w1) λw2 hw=>?_;have hw2:=hw.symm;subst hw2;clear hw;cases b1
 ·go_wp21
  all_goals first|exact(zzU ‹_›).elim|skip
  go_ret;exact⟨11,rfl,by decide,hB⟩
 ·cases sl
  ·cases m
   ·rcases hz with h|⟨h,h'⟩
    all_goals
     go_wp21
     all_goals first|exact(zzU ‹_›).elim|skip
     go_ret;exact⟨4,rfl,by decide,hB⟩
   ·cases z3
    ·rcases hz with h|⟨h,h'⟩
     all_goals
      go_wp21
      all_goals first|exact(zzU ‹_›).elim|skip
      go_ret;exact⟨4,rfl,by decide,hB⟩
    ·go_wp21
     all_goals first|exact(zzU ‹_›).elim|skip
     go_ret;exact⟨11,rfl,by decide,hB⟩
  ·go_wp21
   all_goals first|exact(zzU ‹_›).elim|skip
   refine zzM (D2.out _) λw2 hw=>?_;have hw2:=hw.symm;subst hw2;clear hw;cases b2
   ·go_wp21
    all_goals first|exact(zzU ‹_›).elim|skip
    go_ret;exact⟨11,rfl,by decide,hB⟩
   ·cases z1<;>cases z2<;>cases m<;>cases z3
    all_goals
     rcases hz with h|⟨h,h'⟩
     all_goals
      go_wp21
      all_goals first|exact(zzU ‹_›).elim|skip
      go_ret
      first|exact⟨4,rfl,by decide,hB⟩|exact⟨11,rfl,by decide,hB⟩
theorem zri {q:Rat}:okQ q↔(upS (numS q)).length<=300/\(dnS (numS q)).length<=300:=by
 obtain⟨h1,h2,_,_⟩:=zvg q;rw[h1,h2];unfold okQ denS digs;by_cases c:q.den=1
 ·rw[if_pos c,c,(zta 1).2 rfl];simp
 ·rw[if_neg c]
theorem zt5 (l:List UInt8) (hl:l.length<=1000) (w:zA) (hw:Wd w):
 zC zF 139 #[St l] w λe w'=>∃r:Int,e=.returned (.int .i64 r)/\(r=0↔∃q,l=numS q/\okQ q)/\zB w.heap.size w w':=by
 classical
 have sz:∀k:List UInt8,(⟨k.toArray⟩:ByteArray).size=k.length:=λk=>by show k.toArray.size=_;simp
 have lb:(bare l).length<=1000:=by
  have h2:(bare l).length<=l.length:=by unfold bare;split<;>simp
  omega
 have lu:(upS l).length<=1000:=zO (List.takeWhile_sublist _).length_le lb;have ld:(dnS l).length<=1000:=by
  have h1:((bare l).dropWhile (· !=47)).length<=(bare l).length:=(List.dropWhile_sublist _).length_le;have h3:(dnS l).length=((bare l).dropWhile (· !=47)).length-1:=by unfold dnS;rw[List.length_tail]
  omega
 have hd:∀k:List UInt8,k.length<=1000->∀W,zC zF 206 #[.string ⟨k.toArray⟩] W (λe w'=>e=.returned (.bool (decide (zcb k)))/\w'=W):=λk hk W=>by
  refine(zsg k (by omega) W).mono ?_;rintro e w' ⟨b,rfl,h,rfl⟩;refine⟨?_,rfl⟩;congr 2;cases b
  ·rw[eq_comm,decide_eq_false_iff_not];intro h';exact absurd (h.2 h') (by simp)
  ·rw[eq_comm,decide_eq_true_iff];exact h.1 rfl
 have hok:(∃q,l=numS q/\okQ q)↔okS l/\(upS l).length<=300/\(dnS l).length<=300:=by
  rw[zy2];constructor
  ·rintro⟨q,rfl,h⟩;exact⟨⟨q,rfl⟩,zri.1 h⟩
  ·rintro⟨⟨q,rfl⟩,h⟩;exact⟨q,rfl,zri.2 h⟩
 by_cases hL:(upS l).length<=300/\(dnS l).length<=300
 ·obtain⟨hu,hv⟩:=hL
  have e:(∃q,l=numS q/\okQ q)↔okS l:=by rw[hok];exact⟨λh=>h.1,λh=>⟨h,hu,hv⟩⟩
  simp only[e];refine zsl ⟨l.toArray⟩ ⟨(upS l).toArray⟩ ⟨(dnS l).toArray⟩ (decide (l.head? =some 45)) (decide ((47:UInt8)∈bare l)) (decide (zcb (upS l))) (decide (zcb (dnS l))) (decide (dnS l=[48])) (decide (dnS l=[49])) (decide (upS l=[48]))
   (Nat.gcd (val (upS l)) (val (dnS l))) (okS l) (by rw[sz];exact hu) (by rw[sz];exact hv) (hid ?_) (zeb _ _ rfl _) (zeb _ _ rfl _) (zeb _ _ rfl _)
   (hid λW=>zlq l (by omega) W) (hid λW=>hd _ lu W) (hid λW=>hd _ ld W) (hid λh1 h2 h3 h4=>?_) (hid λh1 h2=>?_) w (hid hw)
  ·rw[zuh]
   simp only[decide_eq_true_eq,decide_eq_false_iff_not,ne_eq]
  ·rw[sz] at h3 h4
   have n1:zcb (upS l):=of_decide_eq_true h1;have n2:zcb (dnS l):=of_decide_eq_true h2;refine⟨val (upS l),val (dnS l),λW=>zlj _ n1.2.1 h3 W,λW=>zlj _ n2.2.1 h4 W,λW=>?_⟩;have b1:=zS (zjc _ n1.2.1) (yF (by omega) h3:10^(upS l).length<=10^9);have b2:=zS (zjc _ n2.2.1) (yF (by omega) h4:10^(dnS l).length<=10^9);refine(zxf _ _ (by omega) (by omega) W).mono ?_;rintro e w' ⟨nd,rfl,rfl⟩;exact⟨rfl,zao (zM _ _) _⟩
  ·have n1:zcb (upS l):=of_decide_eq_true h1
   have n2:zcb (dnS l):=of_decide_eq_true h2;refine⟨⟨(zD (Nat.gcd (val (upS l)) (val (dnS l)))).toArray⟩,?_,λW hW=>?_⟩
   ·rw[zeb _ _ rfl]
    exact decide_eq_decide.2 (zta _)
   ·have:=zxp (val (upS l):Int) (val (dnS l):Int) (by unfold digs;rw[Int.natAbs_natCast,zdd n1];exact hu) (by unfold digs;rw[Int.natAbs_natCast,zdd n2];exact hv) W hW
    rw[Str.zad,Str.zad,Str.zad,zdd n1,zdd n2] at this;exact this
 ·refine(zt4 ⟨l.toArray⟩ ⟨(upS l).toArray⟩ ⟨(dnS l).toArray⟩ (decide (l.head? =some 45)) (decide ((47:UInt8)∈bare l)) (decide (zcb (upS l))) (decide (zcb (dnS l))) (decide (dnS l=[48])) (decide (dnS l=[49])) (decide (upS l=[48])) ?_ (zeb _ _ rfl _) (zeb _ _ rfl _) (zeb _ _ rfl _)
   (hid λW=>zlq l (by omega) W) (hid λW=>hd _ lu W) (hid λW=>hd _ ld W) w).mono ?_
  ·rw[sz,sz];omega
  ·rintro e w' ⟨r,rfl,hr,hb⟩
   exact⟨r,rfl,⟨λk=>absurd k hr,λk=>absurd (hok.1 k).2 hL⟩,hb⟩
def RowSt (p:Option Addr) (l:List (List UInt8)) (W:zA):Prop:=∀i,i<l.length->∃b off,p=some ⟨b,off,none⟩/\W.cell? ⟨b,off+i,none⟩=some (St (l[i]?.getD []))
theorem RowSt.keep {p:Option Addr} {l:List (List UInt8)} {W W':zA} (h:RowSt p l W) (hc:CellsKept W W'):RowSt p l W':=λi hi=>let ⟨b,off,e,h1⟩:=h i hi;⟨b,off,e,hc.cell h1⟩
end
section
open Go.RowKit Go.Shelf Lib Str Limb Geo
attribute [local go_sem] Oper.semAt_some
def ze5 (l:List Pt) (q:Pt) (k:Nat):Prop:=
 (cmpR (cor l k).y q.y<=0/\0<cmpR (cor l (k+1)).y q.y/\0<turn (cor l k) (cor l (k+1)) q)\/(cmpR (cor l (k+1)).y q.y<=0/\0<cmpR (cor l k).y q.y/\turn (cor l k) (cor l (k+1)) q<0)
instance (l:List Pt) (q:Pt) (k:Nat):Decidable (ze5 l q k):=by unfold ze5;infer_instance
end
section
open Go.RowKit Go.Shelf Lib Str Limb
attribute [local go_sem] Oper.semAt_some
theorem zsc:(Tryz.prog.info? 49).map (λi=>(i.zero,i.size,i.bytes))=some (some (.agg #[St [],St []]),2,32):=by kernel_rfl
theorem zoq (W:zA) (x y:Value) (t:TypeId):∀i u,[x,y][i]? =some u->(W.alloc (.cells #[x,y] t)).cell? ((⟨W.heap.size,0,none⟩:Addr).add i)=some u:=λi u hu=>by
 have A:=zG W (.cells #[x,y] t);have:((⟨W.heap.size,0,none⟩:Addr).add i)=⟨W.heap.size,i,none⟩:=by simp only[Addr.add,Nat.zero_add];split<;>simp_all
 rw[this,zJ A]
 match i,hu with
 |0,hu=>exact hu
 |1,hu=>exact hu
theorem zm4 (x y:List UInt8):∀u∈[St x,St y],u.oneCell'=true:=λu hu=>by
 simp at hu;rcases hu with rfl|rfl<;>rfl
end
section
open Go.RowKit Go.Shelf Lib Str Limb Geo
attribute [local go_sem] Oper.semAt_some
theorem zye {w:zA} {base:Nat} {t:TypeId} {s:Nat} {v:Value} {n:Nat} {xs:List Value} (h:w.ownsRow base t s v n xs) (hn:0<n):
 ∃g c,v=.slice (some ⟨g,0,none⟩) n c/\base<=g/\∀i u,xs[i]? =some u->w.cell? ⟨g,i,none⟩=some u:=by
 rcases h.2 with⟨_,e⟩|⟨g,cp,cur,e,hg1,hg2,_,_,hcs,htk⟩
 ·omega
 ·refine⟨g,cp,e,hg1,λi u hu=>?_⟩
  rw[zJ hg2,<-Array.getElem?_toList];rw[<-htk,List.getElem?_take] at hu;split at hu
  ·exact hu
  ·cases hu
end
section
open Go.RowKit Go.Shelf Lib Str Limb
attribute [local go_sem] Oper.semAt_some
def zbj:List (List UInt8×List UInt8)->List Value
 |[]=>[]
 |c::l=>St c.1::St c.2::zbj l
theorem zn8:∀l,(zbj l).length=l.length*2
 |[]=>rfl
 |c::l=>by simp[zbj,zn8 l];omega
theorem zjb:∀l r,zbj (l++r)=zbj l++zbj r
 |[],_=>rfl
 |c::l,r=>by simp[zbj,zjb l r]
theorem zpb:∀(l:List (List UInt8×List UInt8)) (i:Nat) (c:List UInt8×List UInt8),l[i]? =some c->(zbj l)[i*2]? =some (St c.1)/\(zbj l)[i*2+1]? =some (St c.2)
 |c::l,0,d,h=>by simp at h;subst h;exact⟨rfl,rfl⟩
 |c::l,i+1,d,h=>by
  have:=zpb l i d (by simpa using h);rw[show(i+1)*2=i*2+1+1 by omega];exact this
structure GatL (gb:Nat) (l:List (List UInt8×List UInt8)) (W:zA):Prop where
 cls:∃v,W.cell? ⟨gb,0,none⟩=some v/\W.ownsRow (gb+1) 158 2 v l.length (zbj l)
 fr:W.frozen? ⟨gb,0,none⟩=false
theorem GatL.keep {gb:Nat} {l:List (List UInt8×List UInt8)} {W W':zA} (h:GatL gb l W) (hc:CellsKept W W'):GatL gb l W':=
 let ⟨v,h1,h2⟩:=h.cls
 ⟨⟨v,hc.cell h1,zcj hc h2⟩,hc.frozen h1 h.fr⟩
def RowCl (p:Option Addr) (l:List (List UInt8×List UInt8)) (W:zA):Prop:=∀i c,l[i]? =some c->∃g,p=some ⟨g,0,none⟩/\W.cell? ⟨g,i*2,none⟩=some (St c.1)/\W.cell? ⟨g,i*2+1,none⟩=some (St c.2)
theorem RowCl.keep {p:Option Addr} {l:List (List UInt8×List UInt8)} {W W':zA} (h:RowCl p l W) (hc:CellsKept W W'):RowCl p l W':=λi c hi=>let ⟨g,e,h1,h2⟩:=h i c hi;⟨g,e,hc.cell h1,hc.cell h2⟩
theorem GatL.row {gb:Nat} {l:List (List UInt8×List UInt8)} {W:zA} (h:GatL gb l W):∃p cap,W.cell? ⟨gb,0,none⟩=some (.slice p l.length cap)/\W.ownsRow (gb+1) 158 2 (.slice p l.length cap) l.length (zbj l)/\RowCl p l W:=by
 obtain⟨v,h1,h2⟩:=h.cls;rcases Nat.eq_zero_or_pos l.length with e|e
 ·rcases h2.2 with⟨rfl,e1⟩|⟨g,cp,cur,rfl,_⟩
  ·refine⟨none,0,by rw[e];exact h1,by rw[e] at h2⊢;exact h2,λi c hi=>?_⟩
   rw[List.length_eq_zero_iff.1 e] at hi;simp at hi
  ·refine⟨_,cp,h1,h2,λi c hi=>?_⟩
   rw[List.length_eq_zero_iff.1 e] at hi;simp at hi
 ·obtain⟨g,c,rfl, -,hx⟩:=zye h2 e
  refine⟨_,c,h1,h2,λi d hi=>⟨g,rfl,?_,?_⟩⟩
  ·exact hx _ _ (zpb l i d hi).1
  ·exact hx _ _ (zpb l i d hi).2
structure AdnS (W:zA) (x xr:List UInt8) (l:List (List UInt8×List UInt8)) (n:Nat) (v0:Value) (gb:Nat) (b:Nat×Value) (f:Nat->Bool) (X:zA):Prop where
 pre:f 11=false->qL W X
 new:f 11=false->f 10=true->X.cell? ⟨b.1,0,none⟩=some (St x)/\X.cell? ⟨b.1,1,none⟩=some (St xr)
 post:f 11=true->∃Y Z,qL W Y/\Y.grownBy Z v0.ownBlock/\Z.ownsRow (gb+1) 158 2 b.2 (n+1) (zbj l++[St x,St xr])/\X=if f 14=true then Z.setCell ⟨gb,0,none⟩ b.2 else Z
theorem AdnS.congr {W:zA} {x xr:List UInt8} {l:List (List UInt8×List UInt8)} {n:Nat} {v0:Value} {gb:Nat} {b:Nat×Value} {f g:Nat->Bool} {X:zA} (h:AdnS W x xr l n v0 gb b f X) (e10:g 10=f 10) (e11:g 11=f 11) (e14:g 14=f 14):AdnS W x xr l n v0 gb b g X:=
 ⟨by rw[e11];exact h.pre,by rw[e10,e11];exact h.new,by rw[e11,e14];exact h.post⟩
theorem zot (gb:Nat) (l:List (List UInt8×List UInt8)) (x xr:List UInt8) (hl:l.length<=5000)
 (R:Hid (∀(i:Nat) (c:List UInt8×List UInt8),l[i]? =some c->∃k,qK 170 #[St xr,St c.2] (.tuple #[.string k,.bool false,.int .i64 0])))
 (w:zA) (HW:Hid (Wd w)) (HG:Hid (GatL gb l w)):
 zC zF 119 #[.pointer (some ⟨gb,0,none⟩),.agg #[St x,St xr]] w λe w'=>e=.returned (.int .i64 0)/\zB gb w w'/\GatL gb (l++[(x,xr)]) w':=by
 obtain⟨i0,hi,hz0,hz1,hz2⟩:=info_parts zx5;obtain⟨p,cap,g0,o0,r0⟩:=HG.out.row;have hlt:=zbe g0;obtain⟨W1,hW1⟩:=zzX (w.alloc (.cells #[St x,St xr] 49));have hb1:qL w W1:=by rw[hW1];exact(zM _ w).alloc (zN _) _
 have A1:W1.heap[w.heap.size]? =some (.cells #[St x,St xr] 49 (0,0)):=by rw[hW1];exact zG w _
 have c0:=zai hb1 g0;rw[hW1] at c0;have HW1:=hid hW1.symm;have HB1:=hid hb1;have HA1:=hid A1;have HR0:=hid r0;have HO:=hid o0;have HG0:=hid g0;obtain⟨n,hn⟩:=zzX l.length;rw[<-hn] at c0 hl HO HG0;have HN:=hid hn;clear hW1 hb1 A1 r0 o0 g0 hn;go_enter Tryz.func119,Tryz.ntmps119;go_wp21;rw[HW1.out];clear c0 HW1;go_loopw [19] (λi wr=>∃(k:Nat),k<=n/\i=.int .i64 (k:Int)/\Hid (qL w wr)/\Hid (wr.heap[w.heap.size]? =some (.cells #[St x,St xr] 49 (0,0))))
  (λi _=>n-(zL i).toNat)
 case atStart=>exact⟨0,zR _,rfl,HB1,HA1⟩
 case round=>
  obtain⟨k,hk,rfl,hB,hT⟩:=hrel;by_cases hlt:k<n
  ·obtain⟨c,hc⟩:∃c,l[k]? =some c:=⟨_,List.getElem?_eq_getElem (by rw[<-HN.out];exact hlt)⟩
   obtain⟨g,rfl,c0,c1⟩:=(HR0.out.keep (zac hB.out)) k c hc;obtain⟨q,hR⟩:=R.out k c hc;obtain⟨y,yr⟩:=c;have HRT:=hid hR;clear hR hc;simp only at c0 c1 HRT;obtain⟨v1,hv⟩:=zzX (wr.alloc (.cells #[St y,St yr] 158));have a1:qL wr v1:=by rw[hv];exact(zM _ wr).alloc (zN _) _
   have A1:v1.heap[wr.heap.size]? =some (.cells #[St y,St yr] 158 (0,0)):=by rw[hv];exact zG wr _
   have T1:=zac a1 _ _ _ _ hT.out;have k1:v1.cell? ⟨wr.heap.size,1,none⟩=some (St yr):=by rw[zJ A1];rfl
   have t1:v1.cell? ⟨w.heap.size,1,none⟩=some (St xr):=by rw[zJ T1];rfl
   have E1:=hid (hB.out.trans (a1.mono hB.out.size));have HT1:=hid T1;rw[hv] at k1 t1;have HV:=hid hv.symm;clear hv a1 A1 T1;go_wp21;rw[HV.out];clear k1 t1 HV c0 c1;refine zzM (HRT.out v1 (HW.out.below E1.out)) λw2 hb2=>?_;have hB2:=hid (E1.out.trans (hb2.mono E1.out.size));have hT2:=hid (zac hb2 _ _ _ _ HT1.out);clear hb2 HRT E1 HT1;go_wp21;go_roundw
   case rel=>exact⟨k+1,by omega,by go_num,hB2,hT2⟩
   case measure=>simp[zL];omega
  ·have hkn:k=n:=by omega
   go_wp21;have hks:∀w':zA,qL wr w'->w'.cell? ⟨gb,0,none⟩=some (.slice p n cap)/\w'.cell? ⟨w.heap.size,0,none⟩=some (St x)/\w'.cell? ⟨w.heap.size,1,none⟩=some (St xr):=λw' hb=>
    ⟨zai hb (zai hB.out HG0.out),zai hb (by rw[zJ hT.out];rfl),zai hb (by rw[zJ hT.out];rfl)⟩
   have KS:=hid hks;have HF:=hid ((zac hB.out).frozen HG0.out HG.out.fr);have HOw:=hid (zcj (zac hB.out) HO.out);have hgs:gb<w.heap.size:=zbe HG0.out;have hws:=hB.out.size;have hne:some gb≠(Value.slice p n cap).ownBlock:=λe=>by have:=(HO.out.lt _ e.symm).1;omega
   have HNE:=hid hne;clear hks hne HR0 HG R hkn hk hlt HW HB1 HA1;refine zc4 (λ(b:Nat×Value) i=>([.pointer (some ⟨gb,0,none⟩),.pointer (some ⟨gb,0,none⟩),.pointer (some ⟨gb,0,none⟩),.pointer (some ⟨gb,0,none⟩),.slice p n cap,.pointer (some ⟨w.heap.size,0,none⟩),St x,.pointer (some ⟨w.heap.size,1,none⟩),St xr,.agg #[St x,St xr],.slice (some ⟨b.1,0,none⟩) 1 1,b.2,.pointer (some ⟨gb,0,none⟩),.pointer (some ⟨gb,0,none⟩)]:List Value).getD i undef) (AdnS wr x xr l n (.slice p n cap) gb) (by kernel_rfl) (by kernel_rfl) (0,.slice none 0 0) ⟨λ_=>(zM _ wr).drew,λ_ h=>(by cases h),λh=>(by cases h)⟩ λb=>?_;refine qB (.pointer (some ⟨gb,0,none⟩)) (λf W' h=>h.congr rfl rfl rfl) ?_;refine qB (.pointer (some ⟨gb,0,none⟩)) (λf W' h=>h.congr rfl rfl rfl) ?_;refine qB (.pointer (some ⟨gb,0,none⟩)) (λf W' h=>h.congr rfl rfl rfl) ?_;simp only[zzQ];refine qB (.pointer (some ⟨gb,0,none⟩)) (λf W' h=>h.congr rfl rfl rfl) ?_;refine qB (.slice p n cap) (λf W' h=>h.congr rfl rfl rfl) ?_ (hy:=λf W' hf h=>by have g:=KS.out _ (h.pre (hf.no (j:=11) hf.self (by kernel_rfl)));obtain⟨q0,q1,q2⟩:=g;go_simp);refine qB (.pointer (some ⟨w.heap.size,0,none⟩)) (λf W' h=>h.congr rfl rfl rfl) ?_;simp only[zzQ];refine qB (St x) (λf W' h=>h.congr rfl rfl rfl) ?_ (hy:=λf W' hf h=>by have g:=KS.out _ (h.pre (hf.no (j:=11) (hf.no (j:=10) (hf.no (j:=9) hf.self (by kernel_rfl)) (by kernel_rfl)) (by kernel_rfl)));obtain⟨q0,q1,q2⟩:=g;go_simp);refine qB (.pointer (some ⟨w.heap.size,1,none⟩)) (λf W' h=>h.congr rfl rfl rfl) ?_;refine qB (St xr) (λf W' h=>h.congr rfl rfl rfl) ?_ (hy:=λf W' hf h=>by have g:=KS.out _ (h.pre (hf.no (j:=11) (hf.no (j:=10) (hf.no (j:=9) hf.self (by kernel_rfl)) (by kernel_rfl)) (by kernel_rfl)));obtain⟨q0,q1,q2⟩:=g;go_simp);simp only[zzQ];refine qB (.agg #[St x,St xr]) (λf W' h=>h.congr rfl rfl rfl) ?_;simp only[zzQ]
   refine zdc (.slice (some ⟨b.1,0,none⟩) 1 1) (by rfl) (by rfl) (λf W' hf h C' hC'=>by
    have h11:=(hf.no (j:=11) hf.self (by kernel_rfl));have hp:=h.pre h11;have ha:qL W' (W'.alloc (.cells #[St x,St xr] 158)):=(zM _ W').alloc (zN _) _;have A:=zG W' (.cells #[St x,St xr] 158);have:=hC' (W'.heap.size,b.2) (W'.alloc (.cells #[St x,St xr] 158)) (λi hi=>?_) ⟨λ_=>hp.trans (ha.mono hp.size),λ_ _=>⟨by rw[zJ A];rfl,by rw[zJ A];rfl⟩,λk=>(by have k':f 11=true:=k;rw[h11] at k';cases k')⟩
    ·go_simp
     exact this
    ·match i,hi with
     |0,_|1,_|2,_|3,_|4,_|5,_|6,_|7,_|8,_|9,_|11,_|12,_|13,_=>rfl
     |10,hi=>rw[hf.self] at hi;cases hi
     |_+14,_=>rfl) ?_
   try simp only[zzQ]
   refine zdc b.2 (by rfl) (by rfl) (λf W' hf h C' hC'=>by
    have h11:=hf.self;have h14:=(hf.no (j:=14) hf.self (by kernel_rfl));have h10:=hf.done 10 (by kernel_rfl);have hp:=h.pre h11;obtain⟨n0,n1⟩:=h.new h11 h10;refine zmb _ W' _ _ 153 rfl (gb+1) 158 i0 (.agg #[St [],St []]) 2 32 Tryz.underlying153 hi hz0 hz1 hz2 rfl (by decide) (.slice p n cap) n (zbj l) rfl (zcj (zac hp) HOw.out) ⟨b.1,0,none⟩ 1 1 [St x,St xr] rfl rfl (λi u hu=>?_) (λu hu=>?_) (by unfold maxLen;omega) (by omega) (by have:=hp.size;omega) (λv' w' hown' hgrow=>?_)
    ·match i,hu with
     |0,hu=>simp at hu;subst hu;exact n0
     |1,hu=>simp at hu;subst hu;exact n1
     |_+2,hu=>simp at hu
    ·simp at hu;rcases hu with rfl|rfl<;>rfl
    ·refine hC' (b.1,v') w' (λi hi=>?_) ⟨λk=>?_,λk=>?_,λ_=>⟨W',w',hp,hgrow,hown',?_⟩⟩
     ·match i,hi with
      |0,_|1,_|2,_|3,_|4,_|5,_|6,_|7,_|8,_|9,_|10,_|12,_|13,_=>rfl
      |11,hi=>rw[hf.self] at hi;cases hi
      |_+14,_=>rfl
     ·cases k
     ·cases k
     ·show w'=if f 14=true then _ else w'
      rw[h14];rfl) ?_
   refine qB (.pointer (some ⟨gb,0,none⟩)) (λf W' h=>h.congr rfl rfl rfl) ?_;refine qB (.pointer (some ⟨gb,0,none⟩)) (λf W' h=>h.congr rfl rfl rfl) ?_;simp only[zzQ]
   refine zbv undef (by rfl) (by rfl) (λf W' hf h C' hC'=>by
    have h11:=hf.done 11 (by kernel_rfl);have h14:=hf.self;obtain⟨Y,Z,hY,hZ,hz',rfl⟩:=h.post h11;rw[h14,if_neg (by simp)] at*
    have hc0:=(KS.out _ hY).1;have hcell:=hZ.cell hc0 HNE.out;have hfr:Z.frozen? ⟨gb,0,none⟩=false:=by
     rw[World.frozen?_of_block (a:=⟨gb,0,none⟩) (hZ.block _ (zbe hc0) HNE.out)];exact(zac hY).frozen (KS.out _ (zM _ wr)).1 HF.out
    have:=hC' (Z.setCell ⟨gb,0,none⟩ b.2) ⟨λk=>(by have k':f 11=false:=k;rw[h11] at k';cases k'),λk=>(by have k':f 11=false:=k;rw[h11] at k';cases k'),λ_=>⟨Y,Z,hY,hZ,hz',rfl⟩⟩;obtain⟨q,m,c,e2⟩:∃q m c,b.2=.slice q m c:=by
     rcases hz'.2 with⟨e,_⟩|⟨g,cp,cur,e,_⟩<;>exact⟨_,_,_,e⟩
    rw[e2] at this;go_simp;exact this) ?_
   try simp only[Act.put]
   refine ze1 λf X hf h=>?_;obtain⟨Y,Z,hY,hZ,hz',rfl⟩:=h.post (hf 11 (by decide));rw[if_pos (hf 14 (by decide))];have hc0:=(KS.out _ hY).1;have hcell:=hZ.cell hc0 HNE.out;have hfr:Z.frozen? ⟨gb,0,none⟩=false:=by
    rw[World.frozen?_of_block (a:=⟨gb,0,none⟩) (hZ.block _ (zbe hc0) HNE.out)];exact(zac hY).frozen (KS.out _ (zM _ wr)).1 HF.out
   have hbel:zB gb w (Z.setCell ⟨gb,0,none⟩ b.2):=by
    have h1:zB gb w Y:=(hB.out.mono (by omega)).trans (hY.mono (by omega));exact(h1.grown hZ (by have:=hY.size;omega) (λq e=>by have:=(HO.out.lt q e).1;omega)).setCell (by simp) _
   have hgate:GatL gb (l++[(x,xr)]) (Z.setCell ⟨gb,0,none⟩ b.2):=by
    refine⟨⟨b.2,za9 hcell,?_⟩,by rw[World.frozen?_setCell];exact hfr⟩;rw[zjb,List.length_append,<-HN.out];show World.ownsRow _ _ _ _ _ (n+1) (zbj l++[St x,St xr]);exact ownsRow_setCell_below hz' (by simp) _
   have HE:=hid (⟨hbel,hgate⟩:zB gb w (Z.setCell ⟨gb,0,none⟩ b.2)/\GatL gb (l++[(x,xr)]) (Z.setCell ⟨gb,0,none⟩ b.2));clear hbel hgate hcell hfr hY hZ hz' h hf hc0;go_wp21;go_ret;exact⟨rfl,HE.out⟩
theorem z4d:∀(l:List (List UInt8×List UInt8)) (k:Nat) (c:List UInt8×List UInt8),zbj (l.set k c)=((zbj l).set (k*2) (St c.1)).set (k*2+1) (St c.2)
 |[],_,_=>rfl
 |_::_,0,_=>rfl
 |d::l,k+1,c=>by
  rw[show(k+1)*2=k*2+1+1 by omega];simp[zbj,z4d l k c]
theorem z42 {W:zA} {B g n cap:Nat} {e:TypeId} {s:Nat} {xs:List Value} (h:W.ownsRow B e s (.slice (some ⟨g,0,none⟩) n cap) n xs) (i:Nat):W.frozen? ⟨g,i,none⟩=false:=by
 rcases h.2 with⟨e1,_⟩|⟨g',cp,cur,e1,_,hg,_⟩
 ·cases e1
 ·cases e1;exact Go.Joins.unfrozen_of_block hg i
theorem z6l {W:zA} {B g n cap k:Nat} {e:TypeId} {l:List (List UInt8×List UInt8)} {z zr:List UInt8} (h:W.ownsRow B e 2 (.slice (some ⟨g,0,none⟩) n cap) n (zbj l)) (hn:n=l.length) (_:k<n):
 ((W.setCell ⟨g,k*2,none⟩ (St z)).setCell ⟨g,k*2+1,none⟩ (St zr)).ownsRow B e 2 (.slice (some ⟨g,0,none⟩) n cap) n (zbj (l.set k (z,zr))):=by
 refine⟨by rw[zn8,List.length_set,hn],?_⟩;rcases h.2 with⟨e1,_⟩|⟨g',cp,cur,e1,h1,hg,h2,h3,h4,h5⟩
 ·cases e1
 ·cases e1
  refine .inr ⟨g,cap,_,rfl,h1,zK (i:=k*2+1) (zK (i:=k*2) hg (St z)) (St zr),h2,h3,by simpa using h4,?_⟩;rw[z4d,<-h5];simp[List.take_set]
def zin (l:List (List UInt8×List UInt8)):List (List UInt8×List UInt8):=l.filter λc=>!(c.1==[48])
def ziq (l:List (List UInt8×List UInt8)) (k:Nat):List (List UInt8×List UInt8):=zin (l.take k)
theorem z7n (l:List (List UInt8×List UInt8)):ziq l l.length=zin l:=by simp[ziq]
theorem z6s {l:List (List UInt8×List UInt8)} {k:Nat} {c:List UInt8×List UInt8} (h:l[k]? =some c):ziq l (k+1)=ziq l k++(if(c.1==[48])=true then[] else[c]):=by
 unfold ziq zin;rw[List.take_add_one,h,List.filter_append];cases hc:(c.1==[48])<;>simp[hc]
theorem z8a (l:List (List UInt8×List UInt8)) (k:Nat):(ziq l k).length<=l.length:=by
 have h1:=List.length_filter_le (λc:List UInt8×List UInt8=>!(c.1==[48])) (l.take k);have h2:(l.take k).length<=l.length:=by simp;omega
 unfold ziq zin;omega
theorem z6g (v1 v2:Value) (C:zA->Prop) (hC:∀W W',C W->qL W W'->C W')
 (K1:Hid (∀W:zA,C W->qJ 97 #[v1] W (.int .i64 0)))
 (K2:Hid (∀W:zA,C W->qJ 97 #[v2] W (.int .i64 0)))
 (w:zA) (h:C w):
 qJ 60 #[v1,v2] w (.bool true):=by
 have HC:=hid hC;have H:=hid h;clear hC h;go_enter Tryz.func60,Tryz.ntmps60;go_wp21;refine zzM (K1.out w H.out) λw1 hb1=>?_;have B1:=hid hb1;clear hb1;go_wp21;refine zzM (K2.out w1 (HC.out _ _ H.out B1.out)) λw2 hb2=>?_;have B2:=hid (B1.out.trans (hb2.mono B1.out.size));clear hb2;go_wp21;go_ret;exact⟨rfl,B2.out⟩
end
section
open Go.RowKit Go.Shelf Lib Str Limb
end
section
open Go.RowKit Go.Shelf Lib Str Limb
attribute [local go_sem] Oper.semAt_some
structure PlsS (w:zA) (x xr y yr:List UInt8) (W:zA):Prop where
 bel:qL w W
 h0:W.heap[w.heap.size]? =some (.cells #[St x,St xr] 158 (0,0))
 h1:W.heap[w.heap.size+1]? =some (.cells #[St y,St yr] 158 (0,0))
 h2:W.heap[w.heap.size+1+1]? =some (.cells #[St [],St []] 158 (0,0))
theorem PlsS.next {w:zA} {x xr y yr:List UInt8} {W W':zA} (h:PlsS w x xr y yr W) (hb:qL W W'):PlsS w x xr y yr W':=
 have hc:=zac hb
 ⟨h.bel.trans (hb.mono h.bel.size),hc _ _ _ _ h.h0,hc _ _ _ _ h.h1,hc _ _ _ _ h.h2⟩
theorem PlsS.cells {w:zA} {x xr y yr:List UInt8} {W:zA} (h:PlsS w x xr y yr W):
 W.cell? ⟨w.heap.size,0,none⟩=some (St x)/\W.cell? ⟨w.heap.size,1,none⟩=some (St xr)/\W.cell? ⟨w.heap.size+1,0,none⟩=some (St y)/\W.cell? ⟨w.heap.size+1,1,none⟩=some (St yr)/\
 W.cell? ⟨w.heap.size+1+1,0,none⟩=some (St [])/\W.cell? ⟨w.heap.size+1+1,1,none⟩=some (St [])/\W.frozen? ⟨w.heap.size+1+1,0,none⟩=false/\W.frozen? ⟨w.heap.size+1+1,1,none⟩=false:=by
 refine⟨?_,?_,?_,?_,?_,?_,Go.Joins.unfrozen_of_block h.h2 0,Go.Joins.unfrozen_of_block h.h2 1⟩
 ·rw[zJ h.h0];rfl
 ·rw[zJ h.h0];rfl
 ·rw[zJ h.h1];rfl
 ·rw[zJ h.h1];rfl
 ·rw[zJ h.h2];rfl
 ·rw[zJ h.h2];rfl
theorem PlsS.start (w:zA) (x xr y yr:List UInt8):PlsS w x xr y yr (((w.alloc (.cells #[St x,St xr] 158)).alloc (.cells #[St y,St yr] 158)).alloc (.cells #[St [],St []] 158)):=by
 refine⟨(((zM _ w).alloc (zN _) _).alloc (by simp) _).alloc (by simp;omega) _,?_,?_,?_⟩
 ·exact(Below.heap_alloc _ _ _ (by simp;omega)).trans ((Below.heap_alloc _ _ _ (by simp)).trans (zG w _))
 ·have:=zG (w.alloc (.cells #[St x,St xr] 158)) (.cells #[St y,St yr] 158)
  rw[zH] at this;exact(Below.heap_alloc _ _ _ (by simp)).trans this
 ·have:=zG ((w.alloc (.cells #[St x,St xr] 158)).alloc (.cells #[St y,St yr] 158)) (.cells #[St [],St []] 158)
  simp only[zH] at this;exact this
theorem zvt (x xr y yr k m z:List UInt8) (is:Bool)
 (R:Hid (qK 170 #[St yr,St xr] (.tuple #[St k,.bool is,.int .i64 0])))
 (M:Hid (qK 52 #[St y,St k] (.tuple #[St m,.int .i64 0])))
 (A:Hid (qK 53 #[St x,St m] (.tuple #[St z,.int .i64 0])))
 (w:zA) (HW:Hid (Wd w)):
 qJ 182 #[.agg #[St x,St xr],.agg #[St y,St yr]] w (.tuple #[.agg #[St z,St xr],.int .i64 0]):=by
 have hS:=PlsS.start w x xr y yr;obtain⟨c0,c1,c2,c3,c4,c5,f0,f1⟩:=hS.cells;obtain⟨W1,hW1⟩:=zzX (((w.alloc (.cells #[St x,St xr] 158)).alloc (.cells #[St y,St yr] 158)).alloc (.cells #[St [],St []] 158));rw[<-hW1] at hS;have HS:=hid hS;have HW1:=hid hW1;clear hS hW1;go_enter Tryz.func182,Tryz.ntmps182;go_wp21;have h9:=HW1.out;rw[<-h9];clear h9 c0 c1 c2 c3 c4 c5 f0 f1;refine zzM (R.out W1 (HW.out.below HS.out.bel)) λw2 hb2=>?_;have H2:=hid (HS.out.next hb2);clear hb2 HS HW1;obtain⟨c0,c1,c2,c3,c4,c5,f0,f1⟩:=H2.out.cells;go_wp21;refine zzM (M.out w2 (HW.out.below H2.out.bel)) λw3 hb3=>?_;have H3:=hid (H2.out.next hb3);clear hb3 H2 c0 c1 c2 c3 c4 c5 f0 f1;obtain⟨c0,c1,c2,c3,c4,c5,f0,f1⟩:=H3.out.cells;go_wp21;refine zzM (A.out w3 (HW.out.below H3.out.bel)) λw4 hb4=>?_;have H4:=hid (H3.out.next hb4);clear hb4 H3 c0 c1 c2 c3 c4 c5 f0 f1;obtain⟨c0,c1,c2,c3,c4,c5,f0,f1⟩:=H4.out.cells;have hB4:=H4.out.bel;go_wp21;refine bodyPost_ret (v:=.tuple #[.agg #[St z,St xr],.int .i64 0]) (by simp[results,Tryz.results182,go_sem,c4,c5]) rfl ⟨rfl,?_⟩
 repeat(first|exact hB4|refine Below.setCell ?_ (by simp;omega) _)
theorem nm0:numS 0=[48]:=by have:=zha 0;rw[show((0:Int):Rat)=0 from rfl] at this;rw[this];decide+kernel
theorem nm_1:numS (-1)=[45,49]:=by have:=zha (-1);rw[show((-1:Int):Rat)= -1 from rfl] at this;rw[this];decide+kernel
theorem zb7:sz 0 1/\sz 1 1/\sz 2 1/\sz 4 1/\sz (-1) 1/\sz (-2) 1:=⟨⟨by decide,by decide⟩,⟨by decide,by decide⟩,⟨by decide,by decide⟩,⟨by decide,by decide⟩,⟨by decide,by decide⟩,⟨by decide,by decide⟩⟩
def scK (C Y:Nat->List UInt8):Nat->List (List UInt8×List UInt8)
 |0=>[]
 |k+1=>scK C Y k++[(C k,Y k)]
theorem z6y (p:Option Addr) (cap n:Nat) (X Y C:Nat->List UInt8) (c:List UInt8) (hn:n<=256)
 (w:zA) (HW:Hid (∀W,qL w W->Wd W))
 (M:Hid (∀i,i<n->qK 52 #[St (X i),St c] (.tuple #[St (C i),.int .i64 0])))
 (T:Hid (∀i,i<n->∃b off,p=some ⟨b,off,none⟩/\b<w.heap.size/\w.cell? ⟨b,off+i*2,none⟩=some (St (X i))/\w.cell? ⟨b,off+i*2+1,none⟩=some (St (Y i)))):
 zC zF 61 #[.slice p n cap,St c] w λe w'=>∃q d,e=.returned (.tuple #[.slice q n d,.int .i64 0])/\zB w.heap.size w w'/\w'.ownsRow w.heap.size 49 2 (.slice q n d) n (zbj (scK C Y n)):=by
 obtain⟨i0,hi,hz0,hz1,hz2⟩:=info_parts zsc;have D0:=hid (zM w.heap.size w);have O0:=hid (show w.ownsRow w.heap.size 49 2 (.slice none 0 0) 0 (zbj (scK C Y 0)) from World.ownsRow_nil _ _ _ _);go_enter Tryz.func61,Tryz.ntmps61;go_wp21;go_loopw [6,13] (λv i wr=>∃(k:Nat) (q:Option Addr) (d:Nat),k<=n/\i=.int .i64 (k:Int)/\v=.slice q k d/\Hid (qL w wr)/\Hid (wr.ownsRow w.heap.size 49 2 (.slice q k d) k (zbj (scK C Y k))))
  (λ_ i _=>n-(zL i).toNat)
 case atStart=>exact⟨0,none,0,zR _,rfl,rfl,D0,O0⟩
 case round=>
  clear D0 O0;obtain⟨k,q,d,hk,rfl,rfl,D1,O1⟩:=hrel;by_cases hlt:k<n
  ·obtain⟨b,off,rfl,hb,c0,c1⟩:=T.out k hlt
   have t0:wr.cell? ⟨b,off+k*2,none⟩=some (St (X k)):=by rw[D1.out.cell (p:=⟨b,off+k*2,none⟩) hb];exact c0
   have t1:wr.cell? ⟨b,off+k*2+1,none⟩=some (St (Y k)):=by rw[D1.out.cell (p:=⟨b,off+k*2+1,none⟩) hb];exact c1
   have M1:=hid (M.out k hlt);have HS:=hid (show scK C Y (k+1)=scK C Y k++[(C k,Y k)] from rfl);generalize X k=x at*
   generalize Y k=y at*
   generalize C k=z at*
   obtain⟨v1,hv⟩:=zzX (wr.alloc (.cells #[St x,St y] 49));have a1:qL wr v1:=by rw[hv];exact(zM _ wr).alloc (zN _) _
   have A1:v1.heap[wr.heap.size]? =some (.cells #[St x,St y] 49 (0,0)):=by rw[hv];exact zG wr _
   have k0:v1.cell? ⟨wr.heap.size,0,none⟩=some (St x):=by rw[zJ A1];rfl
   rw[hv] at k0;have HV1:=hid hv.symm;have E1:=hid (D1.out.trans (a1.mono D1.out.size));have B1:=hid A1;have O2:=hid (zcj (zac a1) O1.out);clear hv a1 A1 c0 c1 hb O1;go_wp21;rw[HV1.out];clear t0 t1 k0 HV1;refine zzM (M1.out v1 (HW.out _ E1.out)) λu1 hb1=>?_;have E2:=hid (E1.out.trans (hb1.mono E1.out.size));have O3:=hid (zcj (zac hb1) O2.out);have B2:=hid (zac hb1 _ _ _ _ B1.out);clear hb1 E1 O2 B1 M1;have k1:u1.cell? ⟨wr.heap.size,1,none⟩=some (St y):=by rw[zJ B2.out];rfl
   go_wp2_with (at_builtin;refine wpList_append_own _ rfl _ _ 35 rfl w.heap.size 49 i0 (.agg #[St [],St []]) 2 32 Tryz.underlying35 hi hz0 hz1 hz2 rfl (by decide) _ _ _ rfl (O3.out.alloc _) ⟨u1.heap.size,0,none⟩ 1 1 [St z,St y] rfl rfl (zoq _ _ _ _) (zm4 _ _) (by unfold maxLen;omega) (by omega) (by have:=E2.out.size;simp;omega) (λv' w' hown' hgrow _=>?_));obtain⟨g',c',rfl, -, -⟩:=zye hown' (by omega);have F1:Hid (qL w w'):=hid ((E2.out.alloc E2.out.size _).grown hgrow (by have:=E2.out.size;simp;omega) (λq e=>(O3.out.lt q e).1));have G1:Hid (w'.ownsRow w.heap.size 49 2 (.slice (some ⟨g',0,none⟩) (k+1) c') (k+1) (zbj (scK C Y (k+1)))):=hid (by rw[HS.out,zjb];exact hown');clear hgrow hown' E2 O3 B2 k1;go_roundw
   case rel=>exact⟨k+1,some ⟨g',0,none⟩,c',by omega,by go_num,rfl,F1,G1⟩
   case measure=>simp[zL];omega
  ·have hkn:k=n:=by omega
   subst hkn;go_wp21;go_ret2;exact⟨q,d,rfl,D1.out,O1.out⟩
def spV:Array Value:= #[.int .i64 4,.int .i64 16,.int .i64 64]
structure Spw (w:zA):Prop where
 pl:w.var? zF "kingpost/surd.signPlaces" =some spV
theorem Spw.below {w w':zA} (h:Spw w) (hb:qL w w'):Spw w':=by
 have hg:Tryz.prog.globalNamed "kingpost/surd.signPlaces" =some 0:=by kernel_rfl
 exact⟨var?_below hb hg (zv5 hg h.pl) h.pl⟩
theorem Spw.block {w:zA} (h:Spw w):∃t fz,w.heap[0]? =some (.cells spV t fz):=by
 have hg:Tryz.prog.globalNamed "kingpost/surd.signPlaces" =some 0:=by kernel_rfl
 have hv:=h.pl;unfold World.var? at hv;rw[hg] at hv;simp only[Option.bind_some] at hv
 cases hb:w.heap[(0:Nat)]? with
 |none=>rw[hb] at hv;cases hv
 |some x=>
  rw[hb] at hv
  cases x with
  |cells cs t fz=>simp at hv;subst hv;exact⟨t,fz,rfl⟩
  |_=>cases hv
def plN:Nat->Nat
 |0=>4
 |1=>16
 |_=>64
theorem z8x (i:Nat) (hi:i<3) (w:zA):(Instr.index 107 (.agg spV) (.int .i64 (i:Int))).run zF w=.ok (.int .i64 (plN i:Int)) w:=
 match i,hi with
 |0,_=>by kernel_rfl
 |1,_=>by kernel_rfl
 |2,_=>by kernel_rfl
theorem znq (n s:Nat) (hs:s*s<=n/\n<(s+1)*(s+1)) (hl:(zD n).length<=290) (w:zA) (hw:Wd w):
 qJ 126 #[St (zD n)] w (.tuple #[St (zD s),.int .i64 0]):=by
 obtain⟨t,ht⟩:=zzX (⟨(zD n).toArray⟩:ByteArray);obtain⟨s1,s2,s3,s4⟩:=zco _ (zci n) t ht;obtain⟨c,r,hd,hc1,hc2⟩:=dec_head n;have h45:(((t[0]'s2).toNat:Int)==45)=false:=by
  rw[beq_eq_false_iff_ne,s4 s2];simp only[hd,List.head_cons];omega
 have ck:∀W:zA,qJ 178 #[.string t] W (.int .i64 0):=λW=>by
  have:=zl4 (n:Int) (by unfold digs;rw[Int.natAbs_natCast];omega) W;rw[Str.zad] at this;rw[ht];exact this
 have rd:∀W:zA,zC zF 116 #[.string t] W λe w'=>∃v,e=.returned (.agg #[.bool false,v])/\Sl w' v ((zaa B9 n).map I)/\zB W.heap.size W w':=λW=>by
  have:=zc3 (n:Int) W (by unfold digs;rw[Int.natAbs_natCast];omega);rw[Str.zad,decide_eq_false (by omega),Int.natAbs_natCast] at this;rw[ht];exact this
 show zC _ _ #[.string ⟨(zD n).toArray⟩] _ _;rw[<-ht];by_cases h0:n=0
 ·have hs0:s=0:=by
   by_cases d:s=0
   ·exact d
   ·have:=Nat.mul_pos (show 0<s by omega) (show 0<s by omega);omega
  have h48:(t.toList==[48])=true:=by rw[ht,ByteArray.toList_eq,h0,zae (by omega)];rfl
  have:=z7g t s2 h45 h48 (hid ck) w;rw[hs0];rw[show St (zD 0)=.string t by rw[ht,h0]];exact this
 ·have h48:(t.toList==[48])=false:=zhl ht 0 (by omega) h0
  by_cases hsm:(zD n).length<=18
  ·have hn18:n<1000000000000000000:=(zaf n 18 (by omega)).1 hsm
   refine z6p t n s s2 h45 h48 (by omega) (hid ck) (hid rd) (hid λW hW=>?_) w (hid hw);refine zd3 t n s (by omega) (hid hn18) (hid hs) (hid λW=>?_) (hid λW hW=>?_) W (hid hW)
   ·have:=znc (n:Int) (by rw[Str.zad];exact hsm) W
    rw[Str.zad] at this;rw[ht];exact this
   ·have hsn:s<=n:=zO (Nat.le_mul_self s) hs.1
    have:=zb3 (s:Int) (by omega) (by omega) W hW;rw[Str.zad] at this;exact this
  ·obtain⟨k,hk⟩:∃k,(t.size+1)/2=k:=⟨_,rfl⟩
   have hn2:n<10^(2*k):=(zaf n (2*k) (by omega)).1 (by omega);have hk2:k<=146:=by omega
   have hX:=z7e hs.1 hn2;have hrep:=λW=>Tryz.strings_Repeat ⟨#[48]⟩ k W (by omega) (by show 1*k<=_;omega);have b9:∀m,m<10^320->(zaa B9 m).length<=400:=λm hm=>zO (zfv (k:=36) (by decide) (zS hm (by decide+kernel))) (by omega);have n200:n<10^290:=(zaf n 290 (by omega)).1 hl;have x101:10^k<=10^146:=yF (by omega) hk2;have p1:(10:Nat)^290+10^146<=10^320:=by decide+kernel
   have y1:(⟨#[49]⟩:ByteArray)++⟨(Lib.repeatL [48] k).toArray⟩=⟨(zD (10^k)).toArray⟩:=by
    rw[z13,zhy];exact z7h [49] (List.replicate k 48)
   refine z7f t ⟨(Lib.repeatL [48] k).toArray⟩ ⟨(zD (10^k)).toArray⟩ n s k (10^k) (hid hs) (by omega) (yS (by simp)) hX (hid ⟨b9 _ (by omega),b9 _ (by omega),b9 _ (by omega)⟩) s2 h45 h48 (by omega) (by omega) hk (hid ck) (hid rd) (hid hrep) (hid λW=>?_) ?_ y1 ?_ w (hid hw)
   ·have hx2:10^k<10^147:=Nat.pow_lt_pow_right (by omega) (by omega)
    have:=zc3 ((10^k:Nat):Int) W (by unfold digs;rw[Int.natAbs_natCast];exact zO ((zaf _ 147 (by omega)).2 hx2) (by omega));rw[Str.zad,decide_eq_false (by omega),Int.natAbs_natCast] at this;exact this
   ·show(Lib.repeatL [48] k).toArray.size<=1000
    rw[zhy];simp;omega
   ·unfold digs
    rw[Int.natAbs_natCast];exact zO ((zaf _ 147 (by omega)).2 (Nat.lt_of_le_of_lt (zO hX x101) (Nat.pow_lt_pow_right (by omega) (by omega)))) (by omega)
theorem z3j (c r d a1 a2 ten a3 rt q rest res:List UInt8) (n again zb:ByteArray) (hzb:zb.size<=1000) (ps:Nat) (hps:ps<=100) (n0:0<n.size) (ng:Bool)
 (hng:(((n[0]'n0).toNat:Int)==45)=ng)
 (P:Hid (qK 37 #[St c] (.tuple #[.string n,St d,.int .i64 0])))
 (M1:Hid (qK 106 #[.string n,.string n] (.tuple #[St a1,.int .i64 0])))
 (M2:Hid (qK 106 #[St a1,St r] (.tuple #[St a2,.int .i64 0])))
 (RP:Hid (∀W:zA,qJ 125 #[.string ⟨#[48]⟩,.int .i64 (2*(ps:Int))] W (.string zb)))
 (TN:Hid ((⟨#[49]⟩:ByteArray)++zb=⟨ten.toArray⟩))
 (M3:Hid (qK 106 #[St a2,St ten] (.tuple #[St a3,.int .i64 0])))
 (R:Hid (qK 126 #[St a3] (.tuple #[St rt,.int .i64 0])))
 (D:Hid (qK 69 #[St rt,St d] (.tuple #[St q,St rest,.int .i64 0])))
 (hpos:ng=false->q=res)
 (M4:Hid (ng=true->qK 106 #[St rt,St rt] (.tuple #[.string again,.int .i64 0])))
 (E:Hid (ng=true->((again.toList==a3)=true/\(rest==[48])=true/\qK 127 #[.string ⟨#[48]⟩,St q] (.tuple #[St res,.int .i64 0]))\/
   (((again.toList==a3)=false\/(rest==[48])=false)/\∃q1,(qK 64 #[St q,.string ⟨#[49]⟩] (.tuple #[St q1,.int .i64 0]))/\qK 127 #[.string ⟨#[48]⟩,St q1] (.tuple #[St res,.int .i64 0]))))
 (w:zA) (HW:Hid (Wd w)):
 qJ 65 #[.agg #[St c,St r],.int .i64 (ps:Int)] w (St res):=by
 have hw2:IntKind.i64.wrap (2*(ps:Int))=2*(ps:Int):=zI _ (by omega);obtain⟨v1,hv⟩:=zzX (w.alloc (.cells #[St c,St r] 49));have a1':qL w v1:=by rw[hv];exact(zM _ w).alloc (zN _) _
 have A1:v1.heap[w.heap.size]? =some (.cells #[St c,St r] 49 (0,0)):=by rw[hv];exact zG w _
 have k0:v1.cell? ⟨w.heap.size,0,none⟩=some (St c):=by rw[zJ A1];rfl
 rw[hv] at k0;have HV1:=hid hv.symm;have E1:=hid a1';have B1:=hid A1;clear hv a1' A1;go_enter Tryz.func65,Tryz.ntmps65;go_wp21;rw[HV1.out];clear k0 HV1;refine zzM (P.out v1 (HW.out.below E1.out)) λy1 hb1=>?_;have E2:=hid (E1.out.trans (hb1.mono E1.out.size));have B2:=hid (zac hb1 _ _ _ _ B1.out);clear hb1 E1 B1;go_wp21;refine zzM (M1.out y1 (HW.out.below E2.out)) λy2 hb1=>?_;have E3:=hid (E2.out.trans (hb1.mono E2.out.size));have B3:=hid (zac hb1 _ _ _ _ B2.out);clear hb1 E2 B2;have k1:y2.cell? ⟨w.heap.size,1,none⟩=some (St r):=by rw[zJ B3.out];rfl
 go_wp21;refine zzM (M2.out y2 (HW.out.below E3.out)) λy3 hb1=>?_;have E4:=hid (E3.out.trans (hb1.mono E3.out.size));clear hb1 E3 B3 k1;go_wp21;refine zzM (RP.out y3) λy4 hb1=>?_;have E5:=hid (E4.out.trans (hb1.mono E4.out.size));clear hb1 E4;go_wp21;rw[TN.out];refine zzM (M3.out y4 (HW.out.below E5.out)) λy5 hb1=>?_;have E6:=hid (E5.out.trans (hb1.mono E5.out.size));clear hb1 E5;go_wp21;refine zzM (R.out y5 (HW.out.below E6.out)) λy6 hb1=>?_;have E7:=hid (E6.out.trans (hb1.mono E6.out.size));clear hb1 E6;go_wp21;refine zzM (D.out y6 (HW.out.below E7.out)) λy7 hb1=>?_;have E8:=hid (E7.out.trans (hb1.mono E7.out.size));clear hb1 E7;cases ng
 ·obtain rfl:=hpos rfl
  clear M4 E;go_wp21;go_ret;exact⟨rfl,E8.out⟩
 ·have HM4:=hid (M4.out rfl);have HE:=hid (E.out rfl)
  clear M4 E hpos;go_wp21;refine zzM (HM4.out y7 (HW.out.below E8.out)) λy8 hb1=>?_;have E9:=hid (E8.out.trans (hb1.mono E8.out.size));clear hb1 E8 HM4;rcases HE.out with⟨e1,e2,hs⟩|⟨e1,q1,ha,hs⟩
  ·have HS:=hid hs;clear HE hs
   go_wp21;refine zzM (HS.out y8 (HW.out.below E9.out)) λy9 hb1=>?_;have F1:=hid (E9.out.trans (hb1.mono E9.out.size));clear hb1;go_wp21;go_ret;exact⟨rfl,F1.out⟩
  ·have HS:=hid hs;have HA:=hid ha;clear HE hs ha
   rcases e1 with e1|e1
   ·go_wp21
    refine zzM (HA.out y8 (HW.out.below E9.out)) λz1 hb1=>?_;have F1:=hid (E9.out.trans (hb1.mono E9.out.size));clear hb1;go_wp21;refine zzM (HS.out z1 (HW.out.below F1.out)) λz2 hb1=>?_;have F2:=hid (F1.out.trans (hb1.mono F1.out.size));clear hb1;go_wp21;go_ret;exact⟨rfl,F2.out⟩
   ·cases e2:(again.toList==a3)
    ·go_wp21
     refine zzM (HA.out y8 (HW.out.below E9.out)) λz1 hb1=>?_;have F1:=hid (E9.out.trans (hb1.mono E9.out.size));clear hb1;go_wp21;refine zzM (HS.out z1 (HW.out.below F1.out)) λz2 hb1=>?_;have F2:=hid (F1.out.trans (hb1.mono F1.out.size));clear hb1;go_wp21;go_ret;exact⟨rfl,F2.out⟩
    ·go_wp21
     refine zzM (HA.out y8 (HW.out.below E9.out)) λz1 hb1=>?_;have F1:=hid (E9.out.trans (hb1.mono E9.out.size));clear hb1;go_wp21;refine zzM (HS.out z1 (HW.out.below F1.out)) λz2 hb1=>?_;have F2:=hid (F1.out.trans (hb1.mono F1.out.size));clear hb1;go_wp21;go_ret;exact⟨rfl,F2.out⟩
def floT (c:Rat) (s N:Nat):Int:=if c.num<0 then-((s/c.den+(if s*s=N/\s%c.den=0 then 0 else 1):Nat):Int) else((s/c.den:Nat):Int)
theorem z3u (x y:Nat) (hx:(zD x).length<=300) (hy:(zD y).length<=300) (hxy:(zD (x*y)).length<=300) (w:zA) (hw:Wd w):
 qJ 106 #[St (zD x),St (zD y)] w (.tuple #[St (zD (x*y)),.int .i64 0]):=by
 have hz:digs ((x:Int)*(y:Int))<=300:=by rw[<-Int.natCast_mul,zd9];exact hxy
 have:=zhk (x:Int) (y:Int) (by rw[zd9];exact hx) (by rw[zd9];exact hy) w hw;rw[zcf hz,zcg hz,<-Int.natCast_mul,Str.zad,Str.zad,Str.zad] at this;exact this
theorem zva (x y:Int) (hx:digs x<=300) (hy:digs y<=300) (hxy:digs (x+y)<=300) (w:zA) (hw:Wd w):
 qJ 64 #[St (zE x),St (zE y)] w (.tuple #[St (zE (x+y)),.int .i64 0]):=by
 have:=z1c x y hx hy w hw;rwa [zcf hxy,zcg hxy] at this
theorem z6j (x y:Int) (hx:digs x<=300) (hy:digs y<=300) (hxy:digs (x-y)<=300) (w:zA) (hw:Wd w):
 qJ 127 #[St (zE x),St (zE y)] w (.tuple #[St (zE (x-y)),.int .i64 0]):=by
 have:=z1e x y hx hy w hw;rwa [zcf hxy,zcg hxy] at this
theorem z6a (x:Int) (h0:0<(⟨(zE x).toArray⟩:ByteArray).size):((((⟨(zE x).toArray⟩:ByteArray)[0]'h0).toNat:Int)==45)=decide (x<0):=by
 obtain⟨s1,s2,s3,s4⟩:=zco (zE x) (by rcases zbg x with⟨_,e⟩|⟨_,e⟩<;>rw[e];exact zci _;simp) _ rfl;rw[s4 h0];rcases zbg x with⟨hx,e⟩|⟨hx,e⟩
 ·obtain⟨c,r,hd,hc1,hc2⟩:=dec_head x.natAbs
  rw[decide_eq_false (by omega),beq_eq_false_iff_ne];simp only[e,hd,List.head_cons];omega
 ·rw[decide_eq_true (by omega)]
  simp only[e,List.head_cons];rfl
theorem zul (c:Rat) (r ps s N:Nat) (hoc:okQ c) (hc0:c≠0) (hr:0<r) (hps:ps<=100) (hN:c.num.natAbs*c.num.natAbs*r*10^(2*ps)=N) (hl:(zD N).length<=290) (hs:s*s<=N/\N<(s+1)*(s+1)) (w:zA) (hw:Wd w):
 qJ 65 #[.agg #[St (numS c),St (zD r)],.int .i64 (ps:Int)] w (St (zE (floT c s N))):=by
 obtain⟨n,hn⟩:=zzX c.num.natAbs;have n0:0<n:=by
  have:c.num≠0:=λe=>hc0 (Rat.num_eq_zero.1 e);omega
 obtain⟨t,ht⟩:=zzX (10^(2*ps));have t0:0<t:=by rw[ht];exact yS (by simp)
 rw[<-hn,<-ht] at hN;have le1:n<=n*n:=Nat.le_mul_self n;have le2:n*n<=n*n*r:=Nat.le_mul_of_pos_right _ hr;have le3:n*n*r<=n*n*r*t:=Nat.le_mul_of_pos_right _ t0;have le4:r<=n*n*r:=Nat.le_mul_of_pos_left _ (Nat.mul_pos n0 n0);have le5:t<=n*n*r*t:=Nat.le_mul_of_pos_left _ (Nat.mul_pos (Nat.mul_pos n0 n0) hr);rw[hN] at le3 le5;have len:∀{m:Nat},m<=N->(zD m).length<=300:=λh=>by have:=zt9 h;omega
 have hsN:s<=N:=z6f hs.1;have hsd:=Nat.div_le_self s c.den;have hN200:N<10^290:=(zaf N 290 (by omega)).1 hl;have p1:(10:Nat)^290+1<10^291:=by decide+kernel
 have dlen:∀z:Int,z.natAbs<=N+1->digs z<=300:=λz hz=>by
  have:=(zaf z.natAbs 291 (by omega)).2 (by omega);unfold digs;omega
 have hneg:∀k:Nat,k<=N+1->((0:Int)-(k:Int)).natAbs<=N+1:=λk h=>by omega
 have hpos:∀k:Nat,k<=N->((k:Int)+1).natAbs<=N+1:=λk h=>by omega
 have z48:zE 0=[48]:=zb9;have z49:zE 1=[49]:=by rw[show(1:Int)=((1:Nat):Int) from rfl,Str.zad,zae (by omega)];rfl
 have hdl:(zD c.den).length<=300:=hoc.2;have hrep:=λW=>Tryz.strings_Repeat ⟨#[48]⟩ (2*ps) W (by omega) (by show 1*(2*ps)<=_;omega);have hi0:0<(⟨(zE c.num).toArray⟩:ByteArray).size:=(zco (zE c.num) (by rcases zbg c.num with⟨_,e⟩|⟨_,e⟩<;>rw[e];exact zci _;simp) _ rfl).2.1
 refine z3j (numS c) (zD r) (zD c.den) (zD (n*n)) (zD (n*n*r)) (zD t) (zD N) (zD s) (zD (s/c.den)) (zD (s%c.den)) (zE (floT c s N)) ⟨(zE c.num).toArray⟩ ⟨(zD (s*s)).toArray⟩ ⟨(Lib.repeatL [48] (2*ps)).toArray⟩ (by show(Lib.repeatL [48] (2*ps)).toArray.size<=1000;rw[zhy];simp;omega) ps hps hi0 (decide (c.num<0)) (z6a c.num hi0)
  (hid λW hW=>zk5 c hoc W hW) (hid λW hW=>?_) (hid λW hW=>z3u _ _ (len (by omega)) (len (by omega)) (len le3) W hW) (hid λW=>?_) (hid ?_) (hid λW hW=>?_) (hid λW hW=>znq N s hs hl W hW) (hid λW hW=>zzn s c.den c.den_pos (len hsN) hdl W hW)
  (λh=>?_) (hid λ_ W hW=>z3u _ _ (len hsN) (len hsN) (len hs.1) W hW) (hid λh=>?_) w (hid hw)
 ·have hz:digs (c.num*c.num)<=300:=dlen _ (by rw[yK,<-hn];omega)
  have:=zhk c.num c.num hoc.1 hoc.1 W hW;rw[zcf hz,zcg hz,<-Int.natAbs_mul_self,Str.zad,<-hn] at this;exact this
 ·have:=hrep W
  exact this
 ·rw[ht,z13,zhy]
  exact z7h [49] (List.replicate (2*ps) 48)
 ·have:=z3u (n*n*r) t (len le3) (len le5) (len (by omega)) W hW
  rw[hN] at this;exact this
 ·have h':¬c.num<0:=by simpa using h
  unfold floT;rw[if_neg h',Str.zad]
 ·have h':c.num<0:=by simpa using h
  have hN0:(zD (s*s)).toArray.toList=zD (s*s):=by simp
  by_cases e:s*s=N/\s%c.den=0
  ·left
   refine⟨by rw[ByteArray.toList_eq,e.1];simp,by rw[e.2,zae (by omega)];rfl,λW hW=>?_⟩;have:=z6j 0 ((s/c.den:Nat):Int) (by rw[show(0:Int)=((0:Nat):Int) from rfl];exact dlen _ (by omega)) (dlen _ (by rw[Int.natAbs_natCast];omega)) (dlen _ (hneg _ (by omega))) W hW;rw[z48,Str.zad] at this;unfold floT;rw[if_pos h',if_pos e,Nat.add_zero,<-Int.zero_sub];exact this
  ·right
   refine⟨?_,zD (s/c.den+1),λW hW=>?_,λW hW=>?_⟩
   ·by_cases e1:s*s=N
    ·right
     have e2:s%c.den≠0:=λk=>e ⟨e1,k⟩;rw[beq_eq_false_iff_ne,<-z48,<-Str.zad];exact λk=>e2 (by have:=zdo k;omega)
    ·left
     rw[ByteArray.toList_eq,beq_eq_false_iff_ne,hN0,<-Str.zad,<-Str.zad];exact λk=>e1 (by have:=zdo k;omega)
   ·have:=zva ((s/c.den:Nat):Int) 1 (dlen _ (by rw[Int.natAbs_natCast];omega)) (dlen _ (by show(1:Nat)<=_;omega)) (dlen _ (hpos _ (by omega))) W hW
    rw[z49,show((s/c.den:Nat):Int)+1=((s/c.den+1:Nat):Int) by omega,Str.zad,Str.zad] at this;exact this
   ·have:=z6j 0 ((s/c.den+1:Nat):Int) (by rw[show(0:Int)=((0:Nat):Int) from rfl];exact dlen _ (by omega)) (dlen _ (by rw[Int.natAbs_natCast];omega)) (dlen _ (hneg _ (by omega))) W hW
    rw[z48,Str.zad] at this;unfold floT;rw[if_pos h',if_neg e,<-Int.zero_sub];exact this
end
end Go.Proofs.YtfoodcpnnmonhaaGreatDoor
