/- kingpostref01: Check, both, small, two at numerals with a sign. -/
import Derived.Test.YtfoodcpnnmonhaaGreatDoorZ08
import Derived.Laws.IdiomStrings
set_option maxRecDepth 100000
set_option maxHeartbeats 8000000
open Go renaming World → zA, Calls → zC
open Go.RowKit renaming Below → zB, intOf → zL
open Go.Lib renaming decDigits → zD, itoa → zE
open Go.Proofs.Tryz renaming prog → zF
open Go.World renaming size_alloc → zH
open Go.IntWalk renaming i64_in → zI
open Go.RowKit.Below renaming refl → zM, heap_setCell → yE
open Nat renaming le_refl → zN, le_trans → zO, mod_lt → zP, mod_eq_of_lt → zQ, zero_le → zR, le_of_lt → zT, pow_succ → yO, mul_comm → yP
open List renaming length_map → zV, getElem?_eq_getElem → yB
namespace Go.Proofs.YtfoodcpnnmonhaaGreatDoor
open Go.RowKit Go.Shelf Lib Str Limb
attribute [local go_sem] Oper.semAt_some
theorem zzE {n:Nat} (h:0<n):∀c r,zD n=c::r->c.toNat≠48:=by
 intro c r e hc;obtain⟨s,hs⟩:=zzX (⟨(zD n++[]).toArray⟩:ByteArray);have hz:=zjz n [] s hs;have c48:c=48:=by apply UInt8.toNat_inj.1;rw[hc];rfl
 rcases hz with h1|h1
 ·rw[e] at h1
  have hr:r=[]:=by cases r with|nil=>rfl|cons _ _=>simp at h1
  have:=zb2 n;rw[e,hr,c48] at this;simp[val] at this;omega
 ·rw[e] at hs
  subst hs;have:=h1 (by simp[ByteArray.size]);exact this (by show c.toNat=48;exact hc)
theorem zsy (n:Nat) (h0:0<n) (hl:(zD n).length<=300) (w:zA):
 zC zF 224 #[St (45::zD n)] w λe w'=>e=.returned (.int .i64 0)/\w'=w:=by
 have hd:=zan n;have hh:=zzE h0;have hpos:1<=(zD n).length:=by have:=zbn (n:Int);unfold digs at this;simpa using this
 obtain⟨l,hll⟩:=zzX (zD n);rw[<-hll] at hd hl hpos hh⊢;obtain⟨s,hs⟩:=zzX (⟨(45::l).toArray⟩:ByteArray);obtain⟨b1,b2⟩:=zds (45::l) s hs;have hsz:s.size=l.length+1:=by rw[b1];simp
 have h1:0<s.size:=by omega
 have h2:1<s.size:=by omega
 have e0:(((s[0]'h1).toNat:Int)==45)=true:=by rw[b2 0 (by simp) h1];rfl
 have hb2:∀k (hb:k<s.size),1<=k->48<=(s[k]'hb).toNat/\(s[k]'hb).toNat<=57:=λk hb hk=>by
  obtain⟨j,rfl⟩:∃j,k=j+1:=⟨k-1,by omega⟩;rw[b2 (j+1) (by simp;omega) hb];exact hd _ (by simp)
 have f1:(((s[1]'h2).toNat:Int)==48)=false:=by
  rw[beq_eq_false_iff_ne,b2 1 (by simp;omega) h2]
  cases l with
  |nil=>simp at hpos
  |cons c r=>have:=hh c r rfl;show((c.toNat:Int))≠48;omega
 show zC _ _ #[.string ⟨(45::l).toArray⟩] _ _;rw[<-hs];have B2:=hid hb2;have hw1:IntKind.i64.wrap ((s.size:Int)-1)=(s.size:Int)-1:=zI _ ⟨by omega,by omega⟩;have h300:¬(300:Int)<(s.size:Int)-1:=by omega
 have h0':(0:Int)<s.size:=by omega
 have hz:((1:Int)==s.size)=false:=by rw[beq_eq_false_iff_ne];omega
 clear hb2 b1 b2 hs hd hh hll hpos hl h0;go_enter Tryz.func224,Tryz.ntmps224;go_wp2;go_loop [4] (λi=>∃k:Nat,1<=k/\k<=s.size/\i=.int .i64 k) (λi=>s.size-(zL i).toNat)
 case atStart=>exact⟨1,zN _,by omega,rfl⟩
 case round=>
  obtain⟨k,hk1,hk,rfl⟩:=hrel;by_cases hlt:k<s.size
  ·obtain⟨c1,c2⟩:=B2.out k hlt hk1
   have d1:(48:Int)<=(s[k].toNat:Int):=by omega
   have d2:(s[k].toNat:Int)<=57:=by omega
   go_wp2;go_round
   case rel=>exact⟨k+1,by omega,by omega,by go_num⟩
   case measure=>simp[zL];omega
  ·go_wp2
   go_ret
   first|exact⟨rfl,rfl⟩|exact rfl|trivial
theorem zh6 (z:Int) (hl:digs z<=300) (w:zA):
 zC zF 224 #[St (zE z)] w λe w'=>e=.returned (.int .i64 0)/\w'=w:=by
 rcases zbg z with⟨h,e⟩|⟨h,e⟩<;>rw[e]
 ·exact zsj _ hl w
 ·exact zsy _ (by omega) hl w
theorem zj7 (x y:Int) (hx:digs x<=300) (hy:digs y<=300) (w:zA):
 zC zF 216 #[St (zE x),St (zE y)] w λe w'=>e=.returned (.int .i64 0)/\w'=w:=by
 have c1:=zh6 x hx w;have c2:=zh6 y hy w;generalize zE x=u at*
 generalize zE y=v at*
 have C1:=hid c1;have C2:=hid c2;clear c1 c2 hx hy;go_enter Tryz.func216,Tryz.ntmps216;go_wp21;refine C1.out.mono ?_;rintro e w' ⟨rfl,rfl⟩;go_wp21;refine C2.out.mono ?_;rintro e w'' ⟨rfl,rfl⟩;go_wp21;go_ret;exact⟨rfl,rfl⟩
theorem zsz (n:Nat) (h0:0<n) (hl:(zD n).length<=16) (w:zA):
 zC zF 265 #[St (45::zD n)] w λe w'=>e=.returned (.tuple #[.int .i64 (-(n:Int)),.bool true])/\w'=w:=by
 obtain⟨l,hll⟩:=zzX (zD n);have hd:=zan n;have hvn:=zb2 n;rw[<-hll] at hd hvn hl⊢;obtain⟨s,hs⟩:=zzX (⟨(45::l).toArray⟩:ByteArray);obtain⟨b1,b2⟩:=zds (45::l) s hs;have hsz:s.size=l.length+1:=by rw[b1];simp
 have hvt:=λk hk=>zhb (l:=l) hd (k:=k) hk;have hs0:0<s.size:=by omega
 have e0:(((s[0]'hs0).toNat:Int)==45)=true:=by rw[b2 0 (by simp) hs0];rfl
 have e0':(((s[0]'hs0).toNat:Int) !=45)=false:=by rw[b2 0 (by simp) hs0];rfl
 have hst:∀k (hb:k+1<s.size),48<=(s[k+1]'hb).toNat/\(s[k+1]'hb).toNat<=57/\val (l.take (k+1))=10*val (l.take k)+((s[k+1]'hb).toNat-48):=λk hb=>by
  have hk:k<l.length:=by omega
  rw[b2 (k+1) (by simp;omega) hb,List.take_succ_eq_append_getElem hk,zde];exact⟨(hd _ (by simp)).1,(hd _ (by simp)).2,rfl⟩
 have hfull:val (l.take (s.size-1))=n:=by rw[hsz,Nat.add_sub_cancel,List.take_length];exact hvn
 show zC _ _ #[.string ⟨(45::l).toArray⟩] _ _;rw[<-hs];have hs17:s.size<=17:=by omega
 generalize hvf:(λk=>val (l.take k))=vf at*
 have hvt':∀k,k<=17->vf k<100000000000000000:=by rw[<-hvf];exact hvt
 have hst':∀k (hb:k+1<s.size),48<=(s[k+1]'hb).toNat/\(s[k+1]'hb).toNat<=57/\vf (k+1)=10*vf k+((s[k+1]'hb).toNat-48):=by rw[<-hvf];exact hst
 have hfull':vf (s.size-1)=n:=by rw[<-hvf];exact hfull
 have hv0:vf 0=0:=by rw[<-hvf];rfl
 have VT:=hid hvt';have ST:=hid hst';have HF:=hid hfull';have V0:=hid hv0;clear hvt' hst' hfull' hv0 hvt hst hfull hvf b1 b2 hs hd hl hll hvn hsz;go_enter Tryz.func265,Tryz.ntmps265;go_wp2;go_loop [4,5] (λa i=>∃k:Nat,k<=s.size/\i=.int .i64 k/\a=.int .i64 (vf (k-1):Nat)) (λ_ i=>s.size-(zL i).toNat)
 case atStart=>exact⟨0,zR _,rfl,by rw[V0.out];rfl⟩
 case round=>
  obtain⟨k,hk,rfl,rfl⟩:=hrel;by_cases hlt:k<s.size
  ·rcases Nat.eq_zero_or_pos k with rfl|hp
   ·go_wp2
    go_round
    case rel=>exact⟨1,by omega,by go_num,rfl⟩
    case measure=>simp[zL];omega
   ·obtain⟨j,rfl⟩:∃j,k=j+1:=⟨k-1,by omega⟩
    obtain⟨c1,c2,c3⟩:=ST.out j hlt;have hv:=VT.out j (by omega);rw[Nat.add_sub_cancel];generalize vf j=v at*
    have C3:=hid c3;clear c3;have d1:(48:Int)<=(s[j+1].toNat:Int):=by omega
    have d2:(s[j+1].toNat:Int)<=57:=by omega
    have d3:((s[j+1].toNat:Int) !=45)=true:=by simp;omega
    go_wp2;go_round
    case rel=>exact⟨j+2,by omega,by go_num,by rw[show j+2-1=j+1 from rfl,C3.out];show Value.int .i64 _=Value.int .i64 _;congr 1;omega⟩
    case measure=>simp[zL];omega
  ·have hk':k=s.size:=by omega
   have HK:=hid hk';clear hk';have hvk:vf (k-1)=n:=by rw[HK.out];exact HF.out
   have hv:n<100000000000000000:=by rw[<-hvk];exact VT.out (k-1) (by omega)
   rw[hvk];have en:IntKind.i64.wrap (-(n:Int))= -(n:Int):=zI _ (by omega);clear hvk hv;go_wp2;go_ret2;exact⟨rfl,rfl⟩
theorem zev (z:Int) (hl:(zE z).length<=17) (w:zA):
 zC zF 265 #[St (zE z)] w λe w'=>e=.returned (.tuple #[.int .i64 z,.bool true])/\w'=w:=by
 rcases zbg z with⟨h,e⟩|⟨h,e⟩<;>rw[e] at hl⊢
 ·have:=zsk z.natAbs hl w
  rwa [show I z.natAbs=.int .i64 z by show Value.int .i64 _=Value.int .i64 _;congr 1;omega] at this
 ·have:=zsz z.natAbs (by omega) (by simp at hl;omega) w
  rwa [show-(z.natAbs:Int)=z by omega] at this
theorem zh7 (z:Int) (hl:17<(zE z).length) (h2:(zE z).length<=1000) (w:zA):
 zC zF 265 #[St (zE z)] w λe w'=>e=.returned (.tuple #[.int .i64 0,.bool false])/\w'=w:=by
 obtain⟨s,hs⟩:=zzX (⟨(zE z).toArray⟩:ByteArray);have hz:s.size=(zE z).length:=by rw[hs];rfl
 show zC _ _ #[.string ⟨(zE z).toArray⟩] _ _;rw[<-hs];have h1:(17:Int)<s.size:=by omega
 have h3:(s.size:Int)<=1000:=by omega
 clear hs hz hl h2;go_enter Tryz.func265,Tryz.ntmps265;go_wp2;go_ret2;exact⟨rfl,rfl⟩
theorem zth (x y:Int) (hx:(zE x).length<=17) (hy:(zE y).length<=17) (w:zA):
 zC zF 217 #[St (zE x),St (zE y)] w λe w'=>e=.returned (.tuple #[.int .i64 x,.int .i64 y,.bool true])/\w'=w:=by
 have c1:=zev x hx w;have c2:=zev y hy w;generalize zE x=u at*
 generalize zE y=v at*
 have C1:=hid c1;have C2:=hid c2;clear c1 c2 hx hy;go_enter Tryz.func217,Tryz.ntmps217;go_wp21;refine C1.out.mono ?_;rintro e w' ⟨rfl,rfl⟩;go_wp21;refine C2.out.mono ?_;rintro e w'' ⟨rfl,rfl⟩;go_wp21;go_ret3;exact⟨rfl,rfl⟩
theorem ztj (x y:Int) (h:17<(zE x).length\/17<(zE y).length) (hx:(zE x).length<=1000) (hy:(zE y).length<=1000) (w:zA):
 zC zF 217 #[St (zE x),St (zE y)] w λe w'=>(∃a b,e=.returned (.tuple #[.int .i64 a,.int .i64 b,.bool false]))/\w'=w:=by
 by_cases h1:17<(zE x).length
 ·have c1:=zh7 x h1 hx w
  generalize zE x=u at*
  generalize zE y=v at*
  have C1:=hid c1;clear c1 hx hy h h1;go_enter Tryz.func217,Tryz.ntmps217;go_wp21;refine C1.out.mono ?_;rintro e w' ⟨rfl,rfl⟩;go_wp21;go_ret3;exact⟨⟨_,_,rfl⟩,rfl⟩
 ·have c1:=zev x (by omega) w
  have c2:=zh7 y (by omega) hy w;generalize zE x=u at*
  generalize zE y=v at*
  have C1:=hid c1;have C2:=hid c2;clear c1 c2 hx hy h h1;go_enter Tryz.func217,Tryz.ntmps217;go_wp21;refine C1.out.mono ?_;rintro e w' ⟨rfl,rfl⟩;go_wp21;refine C2.out.mono ?_;rintro e w'' ⟨rfl,rfl⟩;go_wp21;go_ret3;exact⟨⟨_,_,rfl⟩,rfl⟩
end Go.Proofs.YtfoodcpnnmonhaaGreatDoor
namespace Go.Proofs.YtfoodcpnnmonhaaGreatDoor.Limb
theorem zcp {B:Nat} (hB:2<=B):∀(i n:Nat),(zaa B n)[i]?.getD 0=n/B^i%B
 |0,n=>by
  by_cases h:n=0
  ·subst h;rw[zaz];simp
  ·rw[zfl hB h];simp
 |i+1,n=>by
  by_cases h:n=0
  ·subst h;rw[zaz];simp
  ·rw[zfl hB h,List.getElem?_cons_succ,zcp hB i,Nat.div_div_eq_div_mul,yO,yP]
theorem znm {B n V:Nat} (hB:2<=B) (hV:V<B^(n+2)):V/B^(n+1)%B*B+V/B^n%B=V/B^n:=by
 have e:V/B^(n+1)=V/B^n/B:=by rw[yO,Nat.div_div_eq_div_mul]
 have h1:V/B^n<B*B:=by
  rw[Nat.div_lt_iff_lt_mul (Nat.pow_pos (by omega))];rw[yO,yO,Nat.mul_assoc,yP] at hV;exact hV
 have h2:V/B^n/B<B:=Nat.div_lt_of_lt_mul h1;rw[e,zQ h2,yP];exact Nat.div_add_mod _ _
theorem zy6 {B n V R:Nat} (hB:2<=B) (hV:V<B^(n+2)) (_:0<V) (hR:R<B*V):
 ((R/B^(n+2)%B*B+R/B^(n+1)%B)*B+R/B^n%B)/(V/B^(n+1)%B*B+V/B^n%B+1)*V<=R/\
 ((R/B^(n+2)%B*B+R/B^(n+1)%B)*B+R/B^n%B)/(V/B^(n+1)%B*B+V/B^n%B+1)<B:=by
 rw[znm hB hV];have hp:0<B^n:=Nat.pow_pos (by omega);have hR2:R<B^(n+3):=by
  rw[show n+3=(n+2)+1 from rfl,yO,yP];exact Nat.lt_trans hR (Nat.mul_lt_mul_of_pos_left hV (by omega))
 have hX:(R/B^(n+2)%B*B+R/B^(n+1)%B)*B+R/B^n%B=R/B^n:=by
  have e1:=znm (n:=n+1) hB hR2;rw[show n+1+1=n+2 from rfl] at e1;rw[e1];have e:R/B^(n+1)=R/B^n/B:=by rw[yO,Nat.div_div_eq_div_mul]
  rw[e,yP];exact Nat.div_add_mod _ _
 rw[hX];have k1:V<(V/B^n+1)*B^n:=by rw[yP];exact Nat.lt_mul_div_succ V hp
 have k2:R/B^n/(V/B^n+1)*(V/B^n+1)<=R/B^n:=Nat.div_mul_le_self _ _;have k3:R/B^n*B^n<=R:=Nat.div_mul_le_self _ _;have h1:R/B^n/(V/B^n+1)*V<=R:=by
  have a1:=Nat.mul_le_mul_left (R/B^n/(V/B^n+1)) (zT k1);rw[<-Nat.mul_assoc] at a1;have a2:=Nat.mul_le_mul_right (B^n) k2;omega
 refine⟨h1,?_⟩;exact Nat.lt_of_mul_lt_mul_right (Nat.lt_of_le_of_lt h1 hR)
end Go.Proofs.YtfoodcpnnmonhaaGreatDoor.Limb
namespace Go.Proofs.YtfoodcpnnmonhaaGreatDoor
open Go.RowKit Go.Shelf Lib Str Limb
attribute [local go_sem] Oper.semAt_some
def outL (N n t:Nat):List Nat:=(List.range N).map λp=>if N-1-p<t then 48+n/10^(N-1-p)%10 else 0
theorem zc0 (N n t:Nat):(outL N n t).length=N:=by simp[outL]
theorem zeh (N n t p:Nat) (hp:p<N):(outL N n t)[p]? =some (if N-1-p<t then 48+n/10^(N-1-p)%10 else 0):=by
 simp[outL,hp]
theorem zu6 (N n:Nat):outL N n 0=List.replicate N 0:=by
 apply List.ext_getElem?;intro p;by_cases hp:p<N
 ·rw[zeh N n 0 p hp];simp[hp]
 ·rw[List.getElem?_eq_none (by rw[zc0];omega),List.getElem?_eq_none (by simp;omega)]
theorem zu7 (N n t:Nat) (ht:t<N):(outL N n t).set (N-1-t) (48+n/10^t%10)=outL N n (t+1):=by
 apply List.ext_getElem?;intro p;by_cases hp:p<N
 ·rw[zeh N n (t+1) p hp,List.getElem?_set]
  by_cases he:N-1-t=p
  ·rw[if_pos he,if_pos (by rw[zc0];omega)]
   have:N-1-p=t:=by omega
   rw[this,if_pos (by omega)]
  ·rw[if_neg he,zeh N n t p hp]
   congr 1;by_cases h1:N-1-p<t
   ·rw[if_pos h1,if_pos (by omega)]
   ·rw[if_neg h1,if_neg (by omega)]
 ·rw[List.getElem?_eq_none (by simp[zc0];omega),List.getElem?_eq_none (by rw[zc0];omega)]
theorem znt:∀N n,outL N n N=(padD N n).map UInt8.toNat
 |0,_=>rfl
 |N+1,n=>by
  rw[padD,List.map_append,<-znt N (n/10)];apply List.ext_getElem?;intro p;by_cases hp:p<N+1
  ·rw[zeh (N+1) n (N+1) p hp,if_pos (by omega)]
   by_cases h:p<N
   ·rw[List.getElem?_append_left (by rw[zc0];exact h),zeh N (n/10) N p h,if_pos (by omega),Nat.div_div_eq_div_mul,show N+1-1-p=(N-1-p)+1 by omega,yO,yP (10^_) 10]
   ·have:p=N:=by omega
    subst this;rw[List.getElem?_append_right (by rw[zc0];omega),zc0];simp;omega
  ·rw[List.getElem?_eq_none (by rw[zc0];omega),List.getElem?_eq_none (by simp[zc0];omega)]
theorem ztk (n i j:Nat) (hj:j<6):n/B6^i%B6/10^j%10=n/10^(6*i+j)%10:=by
 have e:(10:Nat)^(6*i+j)=B6^i*10^j:=by rw[Nat.pow_add,Nat.pow_mul];rfl
 rw[e,<-Nat.div_div_eq_div_mul];generalize n/B6^i=a;have h:B6=10^j*(10*10^(5-j)):=by
  rw[show 10*10^(5-j)=10^(6-j) by rw[show 6-j=(5-j)+1 by omega,yO,yP],<-Nat.pow_add,show j+(6-j)=6 by omega];rfl
 rw[h,Nat.mod_mul_right_div_self,Nat.mod_mul_right_mod]
def RowB (W:zA) (g:Nat) (l:List Nat):Prop:=∃cur:Array Value,W.heap[g]? =some (.cells cur 5 (0,0))/\cur.toList=l.map λx:Nat=>Value.int .u8 (x:Int)
theorem RowB.cell {W:zA} {g:Nat} {l:List Nat} (h:RowB W g l) {j x:Nat} (hx:l[j]? =some x):W.cell? ⟨g,j,none⟩=some (.int .u8 (x:Int)):=by
 obtain⟨cur,h1,h2⟩:=h;rw[cell_of_row _ _ _ _ _ _ h1,<-Array.getElem?_toList,h2,List.getElem?_map,hx];rfl
theorem RowB.frozen {W:zA} {g:Nat} {l:List Nat} (h:RowB W g l) (j:Nat):W.frozen? ⟨g,j,none⟩=false:=by
 obtain⟨cur,h1,_⟩:=h;simp[World.frozen?,h1]
theorem RowB.set {W:zA} {g:Nat} {l:List Nat} (h:RowB W g l) (j x:Nat):RowB (W.setCell ⟨g,j,none⟩ (.int .u8 (x:Int))) g (l.set j x):=by
 obtain⟨cur,h1,h2⟩:=h;refine⟨cur.setIfInBounds j (.int .u8 (x:Int)),by simp[World.setCell,Array.getElem?_modify,h1],?_⟩;rw[Array.toList_setIfInBounds,h2,List.map_set]
theorem infoByte:(Tryz.prog.info? 5).map (λi=>(i.zero,i.size,i.bytes))=some (some (.int .u8 0),1,1):=by kernel_rfl
theorem zxj {W:zA} {g N base:Nat} (h:W.ownsRow base 5 1 (.slice (some ⟨g,0,none⟩) N N) N ((List.replicate N 0).map λx=>Value.int .u8 ((x:Nat):Int))):RowB W g (List.replicate N 0):=by
 rcases h.2 with⟨e,_⟩|⟨g',cap,cur,e,h1,hg,h2,h3,h4,h5⟩
 ·cases e
 ·simp only[Value.slice.injEq,Option.some.injEq,Addr.mk.injEq,and_true,true_and] at e
  obtain⟨rfl,rfl⟩:=e;refine⟨cur,hg,?_⟩;rw[<-h5,List.take_of_length_le (by simp;omega)]
theorem ztl (dd:List UInt8):((⟨#[45]⟩:ByteArray)++(⟨dd.toArray⟩:ByteArray))=⟨(45::dd).toArray⟩:=by
 apply ByteArray.ext;rw[ByteArray.data_append];apply Array.toList_inj.1;simp
theorem ztn (m:Bool) (vx:Value) (n:Nat) (hn0:0<n) (w:zA) (hx:Sl w vx ((zaa B6 n).map I)) (lx:(zaa B6 n).length<=200):
 qJ 222 #[.agg #[.bool m,vx]] w (St (zE (sgn m n))):=by
 obtain⟨i0,hi,hz0,hz1,hz2⟩:=info_parts infoByte;have hx':=hx;obtain⟨px,cx,rfl,hcx, -⟩:=hx';simp only[zV] at*
 have hl0:¬(zaa B6 n).length=0:=λh=>(Nat.ne_of_gt hn0) ((zbd (B:=B6) (by decide) n).1 (List.length_eq_zero_iff.1 h));have hlb:(((zaa B6 n).length:Int)==0)=false:=by rw[beq_eq_false_iff_ne];omega
 have hlt:=zgb (B:=B6) (by decide) n;obtain⟨L,hL⟩:=zzX ((zaa B6 n).length);have hb1:qL w (w.alloc (.cells #[.bool m,.slice px (zaa B6 n).length cx] 254)):=(zM _ w).alloc (zN _) _;have A1:=heap_alloc_new w (.cells #[.bool m,.slice px (zaa B6 n).length cx] 254);obtain⟨W1,hW1⟩:=zzX (w.alloc (.cells #[.bool m,.slice px (zaa B6 n).length cx] 254));rw[<-hW1] at hb1 A1;have hlen1:W1.heap.size=w.heap.size+1:=by rw[hW1];simp
 have hx1:=hx.below hb1;rw[<-hL] at hlb hl0 lx hlt hcx A1 hW1 hx1⊢;obtain⟨N,hN⟩:=zzX (6*L);have hNi:(6:Int)*(L:Int)=(N:Int):=by omega
 have hNb:N<=1200:=by omega
 have hn6:n<10^N:=by rw[hN,Nat.pow_mul];exact hlt
 have HN:=hid hN;have HL:=hid hL;have H6:=hid hn6;have HW1:=hid hW1;have c10:W1.cell? ⟨w.heap.size,1,none⟩=some (.slice px L cx):=by simp[World.cell?,A1]
 have cells:∀X:zA,qL W1 X->X.cell? ⟨w.heap.size,0,none⟩=some (.bool m)/\X.cell? ⟨w.heap.size,1,none⟩=some (.slice px L cx):=λX h=>by
  have e2:=(h.block w.heap.size (by omega)).trans A1;refine⟨?_,?_⟩<;>simp[World.cell?,e2]
 have CL:=hid cells;have H1:=hid (⟨hb1,hlen1,hx1⟩:_/\_/\_);clear hN hL hn6 hlt hW1 cells hb1 hlen1 hx1 hx hcx A1;go_enter Tryz.func222,Tryz.ntmps222;go_wp2_with (at_make;rw[<-HW1.out];refine wpList_make_full _ rfl _ _ 228 rfl W1.heap.size 5 i0 (.int .u8 0) 1 Tryz.underlying228 hi hz0 hz1 .i64 .i64 _ _ N rfl rfl (by omega) (by omega) (by rw[hz2];omega) (by unfold maxLen;omega) (zN _) ?_);intro w2 hown hgrow;rw[toList_madeCells_one,<-show(List.replicate N 0).map (λx:Nat=>Value.int .u8 (x:Int))=List.replicate N (.int .u8 0) by simp] at hown;have hrow:=zxj hown;rw[<-zu6 N n] at hrow;have hB0:qL W1 w2:=(zM _ _).grown hgrow (zN _) (λ_ e=>by cases e);have hg2:=(Array.getElem?_eq_some_iff.1 hrow.choose_spec.1).1;clear hown hgrow c10;obtain⟨g,hg⟩:=zzX W1.heap.size;rw[<-hg] at hrow⊢;have HG:=hid hg;clear hg hg2;go_wp2;go_loopw [4] (λi wr=>∃k:Nat,k<=L/\i=.int .i64 k/\RowB wr g (outL N n (6*k))/\zB W1.heap.size W1 wr) (λi _=>L-(zL i).toNat)
 case atStart=>exact⟨0,zR _,rfl,hrow,hB0⟩
 case round=>
  clear hrow hB0;obtain⟨k,hk,rfl,hrow,hB⟩:=hrel;obtain⟨c0,c1⟩:=CL.out _ hB;by_cases hlt:k<L
  ·have hsl:=H1.out.2.2.below hB
   rw[HL.out] at hsl;obtain⟨bx,ox,rfl, -, -,hcx⟩:=hsl.at (i:=k) (by rw[<-HL.out];exact hlt);rw[zcp (B:=B6) (by decide)] at hcx;obtain⟨x0,hx0⟩:=zzX (n/B6^k%B6);rw[<-hx0] at hcx;have hx6:x0<1000000:=by rw[hx0];exact zP _ (by decide)
   have HX0:=hid hx0;have HROW:=hid hrow;have HB:=hid hB;clear hsl hx0 hrow hB;go_wp2;go_loopw [5,6] (λa i wr'=>∃j:Nat,j<=6/\i=.int .i64 ((j:Int)+1)/\a=.int .i64 ((x0/10^j:Nat):Int)/\RowB wr' g (outL N n (6*k+j))/\zB W1.heap.size W1 wr') (λ_ i _=>7-(zL i).toNat)
   case atStart=>exact⟨0,by omega,rfl,by simp,HROW.out,HB.out⟩
   case round=>
    clear HROW HB c0 c1 hcx;obtain⟨j,hj,rfl,rfl,hrow,hB⟩:=hrel;by_cases hj6:j<6
    ·obtain⟨t,ht⟩:=zzX (6*k+j)
     have htN:t<N:=by have:=HN.out;omega
     obtain⟨p,hp⟩:=zzX (N-1-t);have hpi:(N:Int)-6*k-((j:Int)+1)=(p:Int):=by omega
     have hpN:p<N:=by omega
     rw[<-ht] at hrow;have hcell:=hrow.cell (zeh N n t p hpN);rw[if_neg (show ¬N-1-p<t by omega)] at hcell;have hfz:=hrow.frozen p;have hstep:=hrow.set p (48+n/10^t%10);rw[hp,zu7 N n t htN,<-hp] at hstep;obtain⟨x,hx⟩:=zzX (x0/10^j);have hxb:x<1000000:=Nat.lt_of_le_of_lt (by rw[hx];exact Nat.div_le_self _ _) hx6;obtain⟨y,hy⟩:=zzX (48+x%10);have hyd:48+n/10^t%10=y:=by rw[hy,hx,HX0.out,ztk n k j hj6,ht]
     rw[hyd] at hstep;have hyi:(48:Int)+(x:Int)%10=(y:Int):=by omega
     have hyb:y<=57:=by omega
     have hnext:x/10=x0/10^(j+1):=by rw[hx,Nat.div_div_eq_div_mul,yO]
     have HST:=hid (⟨hstep,hnext,ht⟩:_/\_/\_);have HBB:=hid (hB.setCell (p:=⟨g,p,none⟩) (by show W1.heap.size<=g;rw[HG.out];exact zN _) (.int .u8 (y:Int)));rw[<-hx];clear hstep hnext hy hyd hx hp ht hrow hB hx6;go_wp2;go_roundw
     case rel=>exact⟨j+1,by omega,by go_num,by rw[<-HST.out.2.1];show Value.int .i64 _=Value.int .i64 _;congr 1,by rw[show 6*k+(j+1)=6*k+j+1 by omega,<-HST.out.2.2];exact HST.out.1,HBB.out⟩
     case measure=>simp[zL];omega
    ·obtain rfl:j=6:=by omega
     have HROW:=hid hrow;have HBB:=hid hB;clear hrow hB;generalize x0/10^6=xx at*
     go_wp2;go_roundw
     case rel=>exact⟨k+1,by omega,by go_num,by rw[show 6*(k+1)=6*k+6 by omega];exact HROW.out,HBB.out⟩
     case measure=>simp[zL];omega
  ·obtain rfl:k=L:=by omega
   have hN6:6*k=N:=HN.out.symm;rw[hN6,znt] at hrow;have hD:=zan n;obtain⟨D,hDl⟩:=zzX ((zD n).length);have hpd:=zjv N n (by omega) H6.out;rw[<-hDl] at hpd;have hDN:D<=N:=by
    have h1:=zph N n;rw[hpd,List.length_append,List.length_replicate,<-hDl] at h1;omega
   have hD1:1<=D:=by have:=zbn (n:Int);unfold digs at this;rw[hDl];simpa using this
   obtain⟨Z,hZ⟩:=zzX (N-D);rw[<-hZ] at hpd;have cz:∀z,z<Z->wr.cell? ⟨g,z,none⟩=some (.int .u8 48):=λz hz=>by
    have:=hrow.cell (j:=z) (x:=48) (by rw[hpd,List.getElem?_map,List.getElem?_append_left (by simp;exact hz)];simp[hz]);exact this
   have cd:∀j (hj:j<(zD n).length),wr.cell? ⟨g,Z+j,none⟩=some (.int .u8 ((zD n)[j].toNat:Int)):=λj hj=>by
    have:=hrow.cell (j:=Z+j) (x:=(zD n)[j].toNat) (by rw[hpd,List.getElem?_map,List.getElem?_append_right (by simp)];simp[hj]);exact this
   have hf:∃c,(zD n)[0]? =some c/\c.toNat≠48:=by
    cases hdd:zD n with
    |nil=>rw[hDl,hdd] at hD1;simp at hD1
    |cons c r=>exact⟨c,rfl,zzE hn0 c r hdd⟩
   obtain⟨c,hc0,hc48⟩:=hf;have cd0:wr.cell? ⟨g,Z,none⟩=some (.int .u8 (c.toNat:Int)):=by
    have:=cd 0 (by omega);rw[Nat.add_zero] at this;rw[this]
    have e:(zD n)[0]'(by omega)=c:=by
     have:=yB (l:=zD n) (i:=0) (by omega);rw[hc0] at this;exact(Option.some.inj this).symm
    rw[e]
   have CZ:=hid cz;have CONV:=hid (run_convert_bytes_back (P:=zF) wr 228 9 5 ⟨g,Z,none⟩ D (zD n) Tryz.underlying228 Tryz.underlying5 Tryz.underlying9 (λj hj=>by
    have:((⟨g,Z,none⟩:Addr).add j)=⟨g,Z+j,none⟩:=by simp only[Addr.add];split<;>simp_all
    rw[this];exact cd j hj))
   rw[<-hDl] at CONV;have HBW:=hid (H1.out.1.trans (hB.mono (by have:=H1.out.2.1;omega)));have hc48':(((c.toNat:Nat):Int)==48)=false:=by rw[beq_eq_false_iff_ne];omega
   have hZN:Z+D=N:=by omega
   have HD:=hid hDl;clear hrow cz cd hpd hc0 hDl hZ hc48 hD H6;go_wp2;go_loop [3] (λv=>∃z d:Nat,z<=Z/\z+d=N/\v=.slice (some ⟨g,z,none⟩) d d) (λv=>zqm v)
   case atStart=>exact⟨0,N,zR _,by omega,rfl⟩
   case round=>
    obtain⟨z,d,hz,hzd,rfl⟩:=hrel;by_cases hzZ:z<Z
    ·have hcell:=CZ.out z hzZ
     go_wp2;go_round
     case rel=>exact⟨z+1,d-1,by omega,by omega,rfl⟩
     case measure=>simp[zqm];omega
    ·obtain rfl:z=Z:=by omega
     obtain rfl:d=D:=by omega
     have conv:=CONV.out;have HRES:=hid (show zE (sgn m n)=if m then 45::zD n else zD n by
      cases m
      ·rw[zkw];exact Str.zad n
      ·rw[zxb];exact Str.zga n hn0)
     have hdl:(zD n).length<=1200:=by rw[<-HD.out];omega
     clear CONV CZ CL H1 HW1 HN HL HD hlb;generalize zD n=dd at*
     have hdl2:¬(9223372036854775807<1+dd.length):=by omega
     cases m
     ·go_wp2
      go_ret;exact⟨by rw[HRES.out];rfl,HBW.out⟩
     ·go_wp2
      go_ret;refine⟨?_,HBW.out⟩;have e:=HRES.out;simp only[if_true] at e;rw[e];show Ending.returned (.string (_++_))=_;rw[ztl]
theorem z92 (N n t j:Nat) (ht:t<=N) (hj:j<t):(outL N n t)[N-t+j]? =some (((padD t n)[j]'(by rw[zph];exact hj)).toNat):=by
 rw[zeh N n t (N-t+j) (by omega),if_pos (by omega)];have h1:=znt t n;have h2:=zeh t n t j hj;rw[if_pos (by omega),h1,List.getElem?_map,yB (by rw[zph];exact hj)] at h2;rw[show N-1-(N-t+j)=t-1-j by omega];simp only[Option.map_some,Option.some.injEq] at h2;rw[h2]
theorem z94 {n t:Nat} (h0:n/10^t=0) (ht:0<t) (h1:t=1\/n/10^(t-1)≠0):padD t n=zD n:=by
 have hlt:n<10^t:=by
  rcases Nat.lt_or_ge n (10^t) with h|h
  ·exact h
  ·have:=Nat.div_pos h (Nat.pow_pos (show 0<10 by omega));omega
 rw[zjv t n ht hlt];have hl:t-(zD n).length=0:=by
  rcases h1 with rfl|h1
  ·have:=zbn (n:Int);unfold digs at this;simp at this;omega
  ·have h2:10^(t-1)<=n:=by
    rcases Nat.lt_or_ge n (10^(t-1)) with h|h
    ·exact absurd (Nat.div_eq_of_lt h) h1
    ·exact h
   rcases Nat.lt_or_ge (zD n).length t with h3|h3
   ·rcases Nat.eq_zero_or_pos (t-1) with h4|h4
    ·have:=zbn (n:Int);unfold digs at this;simp at this;omega
    ·have:=(zaf n (t-1) h4).1 (by omega)
     omega
   ·omega
 rw[hl];rfl
theorem z16 (n:Nat) (hn:n<9000000000000000000) (w:zA):
 qJ 213 #[I n] w (St (zD n)):=by
 obtain⟨i0,hi,hz0,hz1,hz2⟩:=info_parts infoByte;have hdig:n/10^19=0:=Nat.div_eq_of_lt (Nat.lt_trans hn (by decide));go_enter Tryz.func213,Tryz.ntmps213;go_wp2_with (at_make;refine wpList_make_full _ rfl _ _ 228 rfl w.heap.size 5 i0 (.int .u8 0) 1 Tryz.underlying228 hi hz0 hz1 .i64 .i64 _ _ 20 rfl rfl (by omega) (by omega) (by rw[hz2];omega) (by unfold maxLen;omega) (zN _) ?_);intro w2 hown hgrow;rw[toList_madeCells_one,<-show(List.replicate 20 0).map (λx:Nat=>Value.int .u8 (x:Int))=List.replicate 20 (.int .u8 0) by simp] at hown;have hrow:=zxj hown;rw[<-zu6 20 n] at hrow;have hB0:qL w w2:=(zM _ _).grown hgrow (zN _) (λ_ e=>by cases e);clear hown hgrow;obtain⟨g,hg⟩:=zzX w.heap.size;rw[<-hg] at hrow⊢;have HG:=hid hg;clear hg;have HD18:=hid hdig;clear hdig;have HN:=hid hn;go_wp2;go_loopw [0,4] (λa i wr=>∃t:Nat,t<=18/\a=.int .i64 ((n/10^t:Nat):Int)/\i=.int .i64 ((20:Int)-t)/\RowB wr g (outL 20 n t)/\zB w.heap.size w wr/\(t=0\/n/10^t≠0)) (λ_ i _=>(zL i).toNat)
 case atStart=>exact⟨0,by omega,by simp,rfl,hrow,hB0,.inl rfl⟩
 case round=>
  clear hrow hB0;obtain⟨t,ht,rfl,rfl,hrow,hB,hne⟩:=hrel;obtain⟨p,hp⟩:=zzX (20-1-t);have hpi:(20:Int)-t-1=(p:Int):=by omega
  have hp20:p<20:=by omega
  have hcell:=hrow.cell (zeh 20 n t p hp20);rw[if_neg (show ¬20-1-p<t by omega)] at hcell;have hfz:=hrow.frozen p;have hstep:=hrow.set p (48+n/10^t%10);rw[hp,zu7 20 n t (by omega),<-hp] at hstep;obtain⟨x,hx⟩:=zzX (n/10^t);rw[<-hx] at hstep hne⊢;have hxb:x<9000000000000000000:=Nat.lt_of_le_of_lt (by rw[hx];exact Nat.div_le_self _ _) hn;obtain⟨y,hy⟩:=zzX (48+x%10);rw[<-hy] at hstep;have hyi:(48:Int)+(x:Int)%10=(y:Int):=by omega
  have hyb:y<=57:=by omega
  have hnext:x/10=n/10^(t+1):=by rw[hx,Nat.div_div_eq_div_mul,yO]
  have hbb:=hB.setCell (p:=⟨g,p,none⟩) (by show w.heap.size<=g;rw[HG.out];exact zN _) (.int .u8 (y:Int));obtain⟨x',hx'⟩:=zzX (x/10);have hxi:(x:Int)/10=(x':Int):=by omega
  have hxb':x'<9000000000000000000:=by omega
  rw[<-hx'] at hnext;by_cases h0:x'=0
  ·have hpad:padD (t+1) n=zD n:=z94 (by rw[<-hnext];exact h0) (by omega) (by
    rcases hne with h|h
    ·exact .inl (by omega)
    ·exact .inr (by rw[Nat.add_sub_cancel,<-hx];exact h))
   have hlen:(zD n).length=t+1:=by rw[<-hpad,zph]
   have hconv:=run_convert_bytes_back (P:=zF) (wr.setCell ⟨g,p,none⟩ (.int .u8 (y:Int))) 228 9 5 ⟨g,p,none⟩ (t+1) (zD n) Tryz.underlying228 Tryz.underlying5 Tryz.underlying9 (λj hj=>by
    have e:((⟨g,p,none⟩:Addr).add j)=⟨g,p+j,none⟩:=by simp only[Addr.add];split<;>simp_all
    have h1:=z92 20 n (t+1) j (by omega) (by omega);rw[show 20-(t+1)+j=p+j by omega] at h1;have h2:=hstep.cell h1;rw[e,h2];simp only[hpad])
   rw[hlen] at hconv;obtain⟨T,hT⟩:=zzX (t+1);rw[<-hT] at hconv;have hTp:(20:Int)-p=(T:Int):=by omega
   have hTp2:20-p=T:=by omega
   have hpT:p+T=20:=by omega
   subst h0;have HB:=hid hbb;clear hstep hnext hy hx hp hrow hB hbb hpad hlen hne hT hx' hn HN HD18 hxb';generalize hdd:zD n=dd at*
   have HDD:=hid hdd;clear hdd;go_wp2;go_ret;exact⟨by rw[HDD.out];rfl,HB.out⟩
  ·have hx0:((x':Int)==0)=false:=by rw[beq_eq_false_iff_ne];omega
   have ht18:t+1<=18:=by
    rcases Nat.lt_or_ge t 18 with h|h
    ·omega
    ·have:t=18:=by omega
     rw[this] at hnext;rw[hnext] at h0;exact absurd HD18.out h0
   have HST:=hid (⟨hstep,hnext,hbb⟩:_/\_/\_);have H0:=hid h0;clear hstep hnext hy hx hp hrow hB hbb hne h0 hx' hn HN HD18;go_wp2;go_roundw
   case rel=>exact⟨t+1,ht18,by rw[<-HST.out.2.1],by show Value.int .i64 _=Value.int .i64 _;congr 1;omega,HST.out.1,HST.out.2.2,.inr (by rw[<-HST.out.2.1];exact H0.out)⟩
   case measure=>simp[zL];omega
theorem z36 (a b:List UInt8):((⟨a.toArray⟩:ByteArray)++(⟨b.toArray⟩:ByteArray))=⟨(a++b).toArray⟩:=by
 apply ByteArray.ext;rw[ByteArray.data_append];apply Array.toList_inj.1;simp
theorem ycm (n:Int) (D:Nat) (hD:0<D):zE (n/(Int.gcd n (D:Int):Int))=(if n<0 then[45] else[])++zD (n.natAbs/Nat.gcd n.natAbs D):=by
 have hg:Int.gcd n (D:Int)=Nat.gcd n.natAbs D:=by rw[Int.gcd,Int.natAbs_natCast]
 rw[hg];obtain⟨g,hgg⟩:=zzX (Nat.gcd n.natAbs D);rw[<-hgg];have hg0:0<g:=by rw[hgg];exact Nat.gcd_pos_of_pos_right _ hD
 obtain⟨q,hq⟩:∃q,n.natAbs=g*q:=by have:=Nat.gcd_dvd_left n.natAbs D;rw[<-hgg] at this;exact this
 rw[hq,Nat.mul_div_cancel_left _ hg0];by_cases h:n<0
 ·have e:n= -((g*q:Nat):Int):=by omega
  have hq0:0<q:=by
   rcases Nat.eq_zero_or_pos q with rfl|h'
   ·simp at hq;omega
   ·exact h'
  rw[if_pos h,e,show-((g*q:Nat):Int)=(g:Int)*(-(q:Int)) by rw[Int.natCast_mul,Int.mul_neg],Int.mul_ediv_cancel_left _ (by omega),Str.zga q hq0];rfl
 ·have e:n=((g*q:Nat):Int):=by omega
  rw[if_neg h,e,Int.natCast_mul,Int.mul_ediv_cancel_left _ (by omega),Str.zad];rfl
theorem z89 (n:Int) (D:Nat) (hD:0<D):numS (Rat.divInt n (D:Int))=(if n<0 then[45] else[])++zD (n.natAbs/Nat.gcd n.natAbs D)++(if D/Nat.gcd n.natAbs D=1 then[] else 47::zD (D/Nat.gcd n.natAbs D)):=by
 rw[zif n D (by omega),ycm n D hD];have hg:Int.gcd n (D:Int)=Nat.gcd n.natAbs D:=by rw[Int.gcd,Int.natAbs_natCast]
 rw[hg,<-Int.natCast_ediv,Str.zad];congr 1;by_cases h:D/Nat.gcd n.natAbs D=1
 ·rw[if_pos (by omega),if_pos h]
 ·rw[if_neg (by omega),if_neg h]
theorem yci {n:Nat} (h:n<9000000000000000000):(zD n).length<=19:=(zaf n 19 (by omega)).2 (Nat.lt_trans h (by decide))
theorem ybf (a b:Nat) (ha:a<9000000000000000000) (hb:b<9000000000000000000) (w:zA):
 zC zF 207 #[I a,I b] w λe w'=>∃nd,e=.returned (I (Nat.gcd a b))/\w'=w.drewN nd:=by
 obtain⟨g,hg⟩:=zzX (Nat.gcd a b);rw[<-hg];have HG:=hid hg;clear hg;go_enter Tryz.func207,Tryz.ntmps207;go_wp2;go_loopw [0,1] (λx y wr=>∃m n:Nat,x=I m/\y=I n/\Hid (Nat.gcd m n=g)/\m<9000000000000000000/\n<9000000000000000000/\∃nd,wr=w.drewN nd)
  (λ_ y _=>(zL y).toNat)
 case atStart=>exact⟨a,b,rfl,rfl,HG.out.symm,ha,hb,0,rfl⟩
 case round=>
  clear ha hb;obtain⟨m,n,rfl,rfl,hgm,m1,n1,nd,rfl⟩:=hrel;by_cases h0:n=0
  ·subst h0
   have hm:m=g:=by have:=hgm.out;rw[Nat.gcd_zero_right] at this;exact this
   have HM:=hid hm;clear hm;go_wp2;go_ret;exact⟨nd,by rw[HM.out];rfl,rfl⟩
  ·have hn0:((n:Int) !=0)=true:=by simp;omega
   obtain⟨t,ht⟩:=zzX (m%n);have ht1:t<n:=by rw[ht];exact zP _ (by omega)
   have hgt:=zh1 m n;rw[<-ht] at hgt;have hwr:IntKind.i64.wrap ((m:Int).tmod n)=(t:Int):=by
    rw[Int.tmod_eq_emod_of_nonneg (by omega),<-Int.natCast_emod,<-ht];exact zI _ (by omega)
   have hwe:((m:Int).tmod n)=(t:Int):=by rw[Int.tmod_eq_emod_of_nonneg (by omega),<-Int.natCast_emod,<-ht]
   have HGT:=hid hgt;have HW:=hid hwe;clear hgt ht hwe;go_wp2
   (refine wp_region_quiet_lit (by kernel_rfl) (by kernel_rfl) (WQ.out ?_);(repeat(first|(apply WQ.read (by rfl);(focus(rintro W ⟨n,rfl⟩;go_simp;try with_reducible rfl));try simp only[zzQ])|(apply WQ.skip (by rfl);try simp only[zzQ])));refine WQ.nil ?_;rintro _ ⟨nq,rfl⟩)
   go_wp2;go_roundw
   case rel=>exact⟨n,t,rfl,by first|rfl|(rw[HW.out])|(show Value.int .i64 _=Value.int .i64 _;congr 1;have:=HW.out;rw[<-this,Int.tmod_eq_emod_of_nonneg (by omega)]),HGT.out.trans hgm.out,n1,by omega,_,World.drewN_drewN _ _ _⟩
   case measure=>first|(show((m:Int).tmod n).toNat<(n:Int).toNat;rw[HW.out];omega)|(simp[zL];omega)
theorem z1w (n:Int) (D:Nat) (hn:n.natAbs<9000000000000000000) (hD:0<D) (hD2:D<9000000000000000000) (w:zA):
 qJ 145 #[.int .i64 n,I D] w (St (numS (Rat.divInt n (D:Int)))):=by
 rw[z89 n D hD];have hgc:=λW=>ybf n.natAbs D hn hD2 W;obtain⟨g,hgg⟩:=zzX (Nat.gcd n.natAbs D);rw[<-hgg] at hgc⊢;have hg0:0<g:=by rw[hgg];exact Nat.gcd_pos_of_pos_right _ hD
 have hgd:g<=D:=by rw[hgg];exact Nat.gcd_le_right _ hD
 have hq:n.natAbs/g<=n.natAbs:=Nat.div_le_self _ _;have hr:D/g<=D:=Nat.div_le_self _ _;have hd1:=λW=>z16 (n.natAbs/g) (by omega) W;have hd2:=λW=>z16 (D/g) (by omega) W;have l1:=yci (n:=n.natAbs/g) (by omega);have l2:=yci (n:=D/g) (by omega);obtain⟨a,ha⟩:=zzX n.natAbs;obtain⟨q,hqq⟩:=zzX (n.natAbs/g);obtain⟨r,hrr⟩:=zzX (D/g);have q1:(a:Int)/(g:Int)=(q:Int):=by rw[<-Int.natCast_ediv,hqq,ha]
 have r1:(D:Int)/(g:Int)=(r:Int):=by rw[<-Int.natCast_ediv,hrr]
 rw[<-hqq] at hd1 l1 hq⊢;rw[<-hrr] at hd2 l2 hr⊢;rw[<-ha] at hgc hq hn;have hg1:¬(g:Int)=0:=by omega
 have hqb:q<9000000000000000000:=by omega
 have hrb:r<9000000000000000000:=by omega
 have HGC:=hid hgc;have HD1:=hid hd1;have HD2:=hid hd2;clear hgc hd1 hd2 hgg hgd hq hr hqq hrr hg0;generalize hdq:zD q=dq at*
 generalize hdr:zD r=dr at*
 clear hdq hdr;by_cases hneg:n<0
 ·have hna:IntKind.i64.wrap (-n)=(a:Int):=by rw[show-n=(a:Int) by omega];exact zI _ (by omega)
  rw[if_pos hneg];clear ha;go_enter Tryz.func145,Tryz.ntmps145;go_wp21;refine(HGC.out w).mono ?_;rintro e w1 ⟨nd,rfl,hw1⟩;have hb1:qL w w1:=by rw[hw1];exact zzD (zM _ w) _
  have HB1:=hid hb1;clear hb1 hw1;go_wp21;refine zzM (HD1.out w1) λw2 hb2=>?_;have HB2:=qT HB1 hb2;clear hb2;have f1:¬(9223372036854775807<1+dq.length):=by omega
  by_cases hr1:r=1
  ·subst hr1
   go_wp21;go_ret;refine⟨?_,HB2.out⟩;show Ending.returned (Value.string _)=Ending.returned (Value.string _);congr 2
   try(apply ByteArray.ext;apply Array.toList_inj.1;simp[ByteArray.data_append])
  ·have hrn:((r:Int)==1)=false:=by rw[beq_eq_false_iff_ne];omega
   have f2:¬(9223372036854775807<1+dq.length+1):=by omega
   have f3:¬(9223372036854775807<1+dq.length+1+dr.length):=by omega
   go_wp21;refine zzM (HD2.out w2) λw3 hb3=>?_;have HB3:=qT HB2 hb3;clear hb3;go_wp21;go_ret;refine⟨?_,HB3.out⟩;show Ending.returned (Value.string _)=Ending.returned (Value.string _);congr 2;apply ByteArray.ext;apply Array.toList_inj.1;simp[ByteArray.data_append]
 ·have hna:n=(a:Int):=by omega
  have hnn:¬(a:Int)<0:=by omega
  rw[if_neg hneg,hna];clear ha hna hneg;go_enter Tryz.func145,Tryz.ntmps145;go_wp21;refine(HGC.out w).mono ?_;rintro e w1 ⟨nd,rfl,hw1⟩;have hb1:qL w w1:=by rw[hw1];exact zzD (zM _ w) _
  have HB1:=hid hb1;clear hb1 hw1;go_wp21;refine zzM (HD1.out w1) λw2 hb2=>?_;have HB2:=qT HB1 hb2;clear hb2;have f1:¬(9223372036854775807<dq.length):=by omega
  by_cases hr1:r=1
  ·subst hr1
   go_wp21;go_ret;refine⟨?_,HB2.out⟩;show Ending.returned (Value.string _)=Ending.returned (Value.string _);congr 2
   try(apply ByteArray.ext;apply Array.toList_inj.1;simp[ByteArray.data_append])
  ·have hrn:((r:Int)==1)=false:=by rw[beq_eq_false_iff_ne];omega
   have f2:¬(9223372036854775807<dq.length+1):=by omega
   have f3:¬(9223372036854775807<dq.length+1+dr.length):=by omega
   go_wp21;refine zzM (HD2.out w2) λw3 hb3=>?_;have HB3:=qT HB2 hb3;clear hb3;go_wp21;go_ret;refine⟨?_,HB3.out⟩;show Ending.returned (Value.string _)=Ending.returned (Value.string _);congr 2;apply ByteArray.ext;apply Array.toList_inj.1;simp[ByteArray.data_append]
end Go.Proofs.YtfoodcpnnmonhaaGreatDoor
namespace Go.Proofs.YtfoodcpnnmonhaaGreatDoor
open Go.RowKit Lib Str Limb
theorem zto (va:Value) (a:List Nat) (d:Nat) (w:zA) (ha:Sl w va (a.map I)) (la:a.length<=1000) (sa:zal B6 a) (hd0:0<d) (hd:d<B6):
 zC zF 267 #[va,I d] w (λe w'=>∃v1 v2,e=.returned (.tuple #[v1,v2])/\Sl w' v1 ((zaa B6 (valL B6 a/d)).map I)/\Sl w' v2 ((zaa B6 (valL B6 a%d)).map I)/\zB w.heap.size w w'):=by
 obtain⟨i0,hi,hz0,hz1,hz2⟩:=info_parts zdv;have ha':=ha;obtain⟨pa,ca,rfl,hca,hcella⟩:=ha;have HA:=hid ha';clear ha' hcella hca;have SA:=hid sa;clear sa;simp only[zV] at*
 have hd':d<1000000:=hd;clear hd;have hdz:¬(d:Int)=0:=by omega
 go_enter Tryz.func267,Tryz.ntmps267;go_wp2_with (at_make;refine wpList_make_full _ rfl _ _ 39 rfl w.heap.size 3 i0 (.int .i64 0) 1 Tryz.underlying39 hi hz0 hz1 .i64 .i64 _ _ a.length rfl rfl (by omega) (by omega) (by rw[hz2];omega) (by unfold maxLen;omega) (zN _) ?_);intro w0 hown hgrow;rw[toList_madeCells_one,<-show(List.replicate a.length 0).map I=List.replicate a.length (.int .i64 0) by simp] at hown;obtain⟨hrow, -⟩:=Row.of_own hown;have hB0:qL w w0:=(zM _ _).grown hgrow (zN _) (λ_ e=>by cases e);clear hown hgrow;obtain⟨N,hN⟩:=zzX a.length;obtain⟨g,hg⟩:=zzX w.heap.size;rw[<-hg] at hrow⊢;have HG:=hid hg;clear hg;rw[<-hN] at hrow⊢;have HN:=hid hN;have hN1:N<=1000:=by omega
 clear hN la;go_wp2;go_loopw [7,8] (λc i wr=>∃k:Nat,k<=N/\i=.int .i64 ((N:Int)-1-k)/\c=I (za8 B6 d a k).2/\Row wr g N (za8 B6 d a k).1/\zB w.heap.size w wr)
  (λ_ i _=>(zL i+1).toNat)
 case atStart=>exact⟨0,zR _,by simp,rfl,by rw[za8,<-HN.out];exact hrow,hB0⟩
 case round=>
  clear hrow hB0;obtain⟨k,hk,rfl,rfl,hrow,hB⟩:=hrel;obtain⟨s1,s2,s3, -⟩:=zeo (B:=B6) hd0 SA.out k (by rw[<-HN.out];exact hk);by_cases hlt:k<N
  ·obtain⟨j,hj⟩:=zzX (N-1-k)
   have hjI:(N:Int)-1-k=(j:Int):=by omega
   rw[hjI];have hja:j<a.length:=by rw[<-HN.out];omega
   obtain⟨ba,offa,rfl,hba,hcapa,hcx⟩:=(HA.out.below hB).at hja;have hst:za8 B6 d a (k+1)=zdl B6 d (za8 B6 d a k) j (a[j]?.getD 0):=by rw[hj,HN.out];rfl
   have hx:=zaj SA.out (by decide) j;have hx':a[j]?.getD 0<1000000:=hx;have hJ:=hid hj;have hjN:j<N:=by omega
   have hj1:j=N-1-k:=hj;have hj2:(j:Int)-1=(N:Int)-1-((k+1:Nat):Int):=by omega
   have HJ2:=hid hj2;have hlen:j<(za8 B6 d a k).1.length:=by rw[s1];exact hja
   have HST:=hid hst;clear hst hx hj hj1 hj2 s1 s2 hjI;generalize za8 B6 d a k=s at*
   obtain⟨l,r⟩:=s;dsimp only at*
   generalize a[j]?.getD 0=x at*
   obtain⟨n,hn⟩:=zzX (x+r*1000000);have hnI:(r:Int)*1000000+x=(n:Int):=by omega
   have e1:IntKind.i64.wrap ((r:Int)*1000000)=(r:Int)*1000000:=zI _ (by omega);have e2:IntKind.i64.wrap ((r:Int)*1000000+x)=(n:Int):=by rw[hnI];exact zI _ (by omega)
   obtain⟨q,hq⟩:=zzX (n/d);obtain⟨m,hm⟩:=zzX (n%d);have hq1:q<=n:=by rw[hq];exact Nat.div_le_self _ _
   have hm1:m<d:=by rw[hm];exact zP _ hd0
   have hq2:q<2000000000000:=by
    have:=Nat.mul_le_mul (show r<=999999 by omega) (zN 1000000);omega
   have hm2:m<1000000:=by omega
   have e3:(n:Int)/(d:Int)=(q:Int):=by rw[<-Int.natCast_ediv,<-hq]
   have e4:(n:Int)%(d:Int)=(m:Int):=by rw[<-Int.natCast_emod,<-hm]
   have hcell:=hrow.cell (getD_some hlen);have hfz:=hrow.frozen j;have HROW:=hid hrow;have HQ:=hid (⟨by rw[hq,hn],by rw[hm,hn]⟩:q=(x+r*1000000)/d/\m=(x+r*1000000)%d);clear hrow hlen hn hnI hq hm hq1 hm1;generalize l[j]?.getD 0=z at*
   go_wp2;go_roundw
   case rel=>
    refine⟨k+1,by omega,by rw[<-HJ2.out],by rw[HST.out,e4];show I m=I ((x+r*B6)%d);rw[HQ.out.2];rfl,?_,?_⟩
    ·rw[HST.out]
     show Row _ g N (l.set j ((x+r*B6)/d));rw[show(x+r*B6)/d=q from HQ.out.1.symm];exact Row.set HROW.out j q
    ·exact hB.setCell (by rw[HG.out];exact zN _) _
   case measure=>simp[zL]
  ·obtain rfl:k=N:=by omega
   have hend:(k:Int)-1-k= -1:=by omega
   rw[hend];obtain⟨f1,f2⟩:=zjq (B:=B6) (by decide) hd0 SA.out;rw[<-HN.out] at f1 f2 s1;have hsl:=hrow.sl;rw[s1] at hsl;have hr:(za8 B6 d a k).2<1000000:=by omega
   have HF:=hid (⟨f1,f2⟩:_/\_);have HSL:=hid hsl;have HS1:=hid s1;have HROW:=hid hrow;clear f1 f2 s1 s2 s3 hsl hrow hend;generalize hs:za8 B6 d a k=s at*
   obtain⟨l,r⟩:=s;dsimp only at*
   have HSS:=hid hs;clear hs;go_wp21;refine(zdq _ _ _ l wr HSL.out (by rw[HS1.out];omega)).mono ?_;rintro e w1 ⟨rfl,rfl⟩;go_wp21;have b1:qL wr (wr.alloc (.cells #[I r] 3)):=(zM _ wr).alloc (zN _) _;have A1:=heap_alloc_new wr (.cells #[I r] 3);have hs1:Sl (wr.alloc (.cells #[I r] 3)) (.slice (some ⟨wr.heap.size,0,none⟩) 1 1) ([r].map I):=by
    refine⟨_,_,rfl,zN _,λi x hx=>⟨_,_,rfl,?_⟩⟩
    match i,hx with
    |0,hx=>rw[<-hx];exact cell_of_row _ _ _ _ _ _ A1
   refine zzM (zdq _ _ _ [r] _ hs1 (by simp)) λw1 hw1=>?_;have hw1':=hw1.symm;subst hw1';go_wp21;go_ret2;refine⟨_,_,rfl,?_,?_,hB.trans (b1.mono hB.size)⟩
   ·rw[<-HF.out.1]
    exact(Sl.trim_at HSL.out HS1.out).below b1
   ·rw[<-HF.out.2,<-zpg (B:=B6) (by decide) (show r<B6 from hr)]
    exact Sl.trim_at (n:=1) hs1 rfl
theorem zu8 {w w':zA} {base:Nat} {t:TypeId} {s:Nat} {v:Value} {n:Nat} {xs:List Value} (h:w.ownsRow base t s v n xs) (hb:qL w w'):w'.ownsRow base t s v n xs:=by
 refine⟨h.1,?_⟩;rcases h.2 with h|⟨g,cap,cur,e,h1,hg,r⟩
 ·exact .inl h
 ·exact .inr ⟨g,cap,cur,e,h1,(hb.block g (Array.getElem?_eq_some_iff.1 hg).1).trans hg,r⟩
theorem zxk {w:zA} {base base':Nat} {t:TypeId} {s:Nat} {v:Value} {n:Nat} {xs:List Value} (h:w.ownsRow base t s v n xs) (hb:base'<=base):w.ownsRow base' t s v n xs:=by
 refine⟨h.1,?_⟩;rcases h.2 with h|⟨g,cap,cur,e,h1,r⟩
 ·exact .inl h
 ·exact .inr ⟨g,cap,cur,e,zO hb h1,r⟩
theorem zka {w:zA} {base:Nat} {t:TypeId} {s:Nat} {v:Value} {n:Nat} {xs:List Value} (h:w.ownsRow base t s v n xs) {p:Addr} (hp:p.block<base) (u:Value):(w.setCell p u).ownsRow base t s v n xs:=by
 refine⟨h.1,?_⟩;rcases h.2 with h|⟨g,cap,cur,e,h1,hg,r⟩
 ·exact .inl h
 ·exact .inr ⟨g,cap,cur,e,h1,by rw[yE _ _ _ _ (by omega)];exact hg,r⟩
theorem zxm {w:zA} {base g n c:Nat} {xs:List Value} (h:w.ownsRow base 3 1 (.slice (some ⟨g,0,none⟩) n c) n xs):∀j u,xs[j]? =some u->w.cell? ((⟨g,0,none⟩:Addr).add j)=some u:=
 h.cells (g:=g) rfl
theorem zxn (l:List Nat):∀u∈l.map I,u.oneCell'=true:=λu hu=>by
 obtain⟨x,_,rfl⟩:=List.mem_map.1 hu;rfl
theorem ztq {R x:Nat} (hx:x<B6):zat (x::zaa B6 R)=zaa B6 (x+B6*R):=by
 have hs:zal B6 (x::zaa B6 R):=λy hy=>by
  rcases List.mem_cons.1 hy with rfl|h
  ·exact hx
  ·exact zak (B:=B6) (by decide) R y h
 rw[zbu (B:=B6) (by decide) hs,valL,zam (B:=B6) (by decide)]
theorem zed {m k:Nat} (hm:m<=k):(zaa B6 m).length<=(zaa B6 k).length:=by
 rcases Nat.lt_or_ge (zaa B6 k).length (zaa B6 m).length with h'|h'
 ·have:=zc2 (B:=B6) (by decide) h';omega
 ·exact h'
theorem zs0 (va vb:Value) (m n:Nat) (w:zA) (ha:Sl w va ((zaa B6 m).map I)) (hb:Sl w vb ((zaa B6 n).map I)) (la:(zaa B6 m).length<=1000) (hn:0<n) (h1:n<B6):
 zC zF 219 #[va,vb] w (λe w'=>∃v1 v2,e=.returned (.tuple #[v1,v2])/\Sl w' v1 ((zaa B6 (m/n)).map I)/\Sl w' v2 ((zaa B6 (m%n)).map I)/\zB w.heap.size w w'):=by
 have hS:=zto va (zaa B6 m) n w ha la (zak (by decide) m) hn h1;rw[zam (B:=B6) (by decide)] at hS;have e1:zaa B6 n=[n]:=by
  rw[zfl (by decide) (by omega),zQ h1,Nat.div_eq_of_lt h1,zaz]
 rw[e1] at hb;obtain⟨pa,ca,rfl,hca,_⟩:=ha;obtain⟨pb,cb,rfl,hcb,hc⟩:=hb;obtain⟨b,off,rfl,hcell⟩:=hc 0 (I n) rfl;rw[Nat.add_zero] at hcell;have HS:=hid hS;clear hS hc hca hcb e1 la;simp only[zV,List.map_cons,List.map_nil,List.length_cons,List.length_nil] at*
 generalize (zaa B6 m).length=q at*
 go_enter Tryz.func219,Tryz.ntmps219;go_wp21;refine HS.out.mono ?_;rintro e w1 ⟨v1,v2,rfl,r1,r2,hB⟩;have HR:=hid (⟨r1,r2,hB⟩:_/\_/\_);clear r1 r2 hB HS;go_wp21;go_ret2;exact⟨_,_,rfl,HR.out.1,HR.out.2.1,HR.out.2.2⟩
theorem ztc {w:zA} {base:Nat} (x:Nat) (hb:base<=w.heap.size):(w.alloc (.cells #[I x] 3)).ownsRow base 3 1 (.slice (some ⟨w.heap.size,0,none⟩) 1 1) 1 [I x]:=
 ⟨rfl,.inr ⟨w.heap.size,1,#[I x],rfl,hb,heap_alloc_new w _,zN _,by unfold maxLen;omega,rfl,rfl⟩⟩
structure DivS (w:zA) (G N:Nat) (n R:Nat) (l:List Nat) (v:Value) (W:zA):Prop where
 bel:qL w W
 row:Row W G N l
 rem:∃g c,v=.slice (some ⟨g,0,none⟩) (zaa B6 R).length c/\W.ownsRow (G+1) 3 1 (.slice (some ⟨g,0,none⟩) (zaa B6 R).length c) (zaa B6 R).length ((zaa B6 R).map I)
 hG:G=w.heap.size
theorem DivS.next {w:zA} {G N n R R':Nat} {l:List Nat} {v:Value} {W W':zA} {e:Ending} (h:DivS w G N n R l v W) (hr:ztb W (zaa B6 R') e W'):∃v',e=.returned v'/\DivS w G N n R' l v' W':=by
 obtain⟨g,c,rfl,ho,hb⟩:=hr;have hlt:=h.row.lt;exact⟨_,rfl,h.bel.trans (hb.mono h.bel.size),h.row.below hb hlt,⟨g,c,rfl,zxk ho hlt⟩,h.hG⟩
theorem DivS.grow {w:zA} {G N n R:Nat} {l:List Nat} {v:Value} {W W':zA} (h:DivS w G N n R l v W) (hb:qL W W'):DivS w G N n R l v W':=by
 obtain⟨g,c,rfl,ho⟩:=h.rem;exact⟨h.bel.trans (hb.mono h.bel.size),h.row.below hb h.row.lt,⟨g,c,rfl,zu8 ho hb⟩,h.hG⟩
theorem DivS.store {w:zA} {G N n R:Nat} {l:List Nat} {v:Value} {W:zA} (h:DivS w G N n R l v W) (j x:Nat):DivS w G N n R (l.set j x) v (W.setCell ⟨G,j,none⟩ (I x)):=by
 obtain⟨g,c,rfl,ho⟩:=h.rem;exact⟨h.bel.setCell (by rw[<-h.hG];exact zN _) _,h.row.set j x,⟨g,c,rfl,zka ho (by show G<G+1;omega) _⟩,h.hG⟩
theorem DivS.sl {w:zA} {G N n R:Nat} {l:List Nat} {v:Value} {W:zA} (h:DivS w G N n R l v W):Sl W v ((zaa B6 R).map I):=by
 obtain⟨g,c,rfl,ho⟩:=h.rem;exact Sl.of_own ho
theorem zzx {m n:Nat} (h:m<n):ordN m n= -1:=by unfold ordN;rw[if_pos h]
theorem zz3 {m n:Nat} (h:n<=m):0<=ordN m n:=by unfold ordN;rw[if_neg (by omega)];split<;>omega
theorem zqg {l:List Nat} {i:Nat} (h:i<l.length):(l.map I)[i]? =some (I (l[i]?.getD 0)):=by
 rw[List.getElem?_map,yB h];rfl
theorem zqk (va vb:Value) (m n nn:Nat) (w:zA) (ha:Sl w va ((zaa B6 m).map I)) (hb:Sl w vb ((zaa B6 n).map I)) (la:(zaa B6 m).length<=1000) (lb:(zaa B6 n).length<=990) (hD:(zaa B6 n).length=nn+2):
 zC zF 219 #[va,vb] w (λe w'=>∃v1 v2,e=.returned (.tuple #[v1,v2])/\Sl w' v1 ((zaa B6 (m/n)).map I)/\Sl w' v2 ((zaa B6 (m%n)).map I)/\zB w.heap.size w w'):=by
 obtain⟨i0,hi,hz0,hz1,hz2⟩:=info_parts zdv;have hn0:0<n:=by
  rcases Nat.eq_zero_or_pos n with rfl|h
  ·rw[zaz] at hD;simp at hD
  ·exact h
 have hnB:n<B6^(nn+2):=by rw[<-hD];exact zgb (by decide) n
 have ha':=ha;have hb':=hb;obtain⟨pa,ca,rfl,hca,_⟩:=ha;obtain⟨pb,cb,rfl,hcb,hcb2⟩:=hb;obtain⟨bb,offb,rfl, -⟩:=hcb2 0 _ (zqg (by omega));have c1:w.cell? ⟨bb,offb+(nn+1),none⟩=some (I (n/B6^(nn+1)%B6)):=by
  obtain⟨b2,o2,e2,h2⟩:=hcb2 (nn+1) _ (zqg (by omega));cases e2;rw[h2,zcp (by decide)]
 have c0:w.cell? ⟨bb,offb+nn,none⟩=some (I (n/B6^nn%B6)):=by
  obtain⟨b2,o2,e2,h2⟩:=hcb2 nn _ (zqg (by omega));cases e2;rw[h2,zcp (by decide)]
 have EST:=hid λR (hR:R<B6*n)=>zy6 (B:=B6) (n:=nn) (V:=n) (R:=R) (by decide) hnB hn0 hR;simp only[zV] at*
 have HA:=hid ha';clear ha' hca;have HB:=hid hb';clear hb' hcb hcb2 hnB;have hu1:n/B6^(nn+1)%B6<1000000:=zP _ (by decide);have hu0:n/B6^nn%B6<1000000:=zP _ (by decide);generalize n/B6^(nn+1)%B6=u1 at*
 generalize n/B6^nn%B6=u0 at*
 obtain⟨P,hP⟩:=zzX (u1*1000000+u0);have p1:IntKind.i64.wrap ((u1:Int)*1000000)=(u1:Int)*1000000:=zI _ (by omega);have p2:IntKind.i64.wrap ((u1:Int)*1000000+u0)=(P:Int):=by rw[show(u1:Int)*1000000+u0=(P:Int) by omega];exact zI _ (by omega)
 have hPb:P<1000000000000:=by omega
 have HP:=hid hP;clear hP;obtain⟨n1,hn1⟩:=zzX (nn+1);rw[<-hn1] at c1;obtain⟨D,hD'⟩:=zzX ((zaa B6 n).length);have hDi:(D:Int)-1=(n1:Int):=by omega
 have hDj:(D:Int)-2=(nn:Int):=by omega
 have hD2:¬((D:Int)=1):=by omega
 have hDn:n1<D:=by omega
 have hDm:nn<D:=by omega
 have hD3:D<=990:=by omega
 obtain⟨N,hN⟩:=zzX ((zaa B6 m).length);have hN3:N<=1000:=by omega
 rw[<-hD',<-hN];have HD:=hid (⟨hD',hn1,hD⟩:_/\_/\_);have HN:=hid hN;have HLA:=hid la;have HLB:=hid lb;clear hD' hD hN hn1 la lb;go_enter Tryz.func219,Tryz.ntmps219;go_wp2;go_quiet (fail);have hBq:qL w (w.drewN nq):=zzD (zM _ w) _;have HBQ:=hid hBq;clear hBq c0 c1;go_wp2_with (at_make;refine wpList_make_full _ rfl _ _ 39 rfl w.heap.size 3 i0 (.int .i64 0) 1 Tryz.underlying39 hi hz0 hz1 .i64 .i64 _ _ N rfl rfl (by omega) (by omega) (by rw[hz2];omega) (by unfold maxLen;omega) (by exact HBQ.out.size) ?_);intro w0 hown hgrow;rw[toList_madeCells_one,<-show(List.replicate N 0).map I=List.replicate N (.int .i64 0) by simp] at hown;obtain⟨hrow, -⟩:=Row.of_own hown;have hB0:qL w w0:=HBQ.out.grown hgrow (zN _) (λ_ e=>by cases e);clear hown hgrow HBQ;obtain⟨G,hG⟩:=zzX w.heap.size;rw[<-hG] at hrow⊢;have HG:=hid hG;have hlt0:=hrow.lt;have hD0:DivS w G N n 0 (List.replicate N 0) (.slice (some ⟨w0.heap.size,0,none⟩) 0 0) (w0.alloc (.cells #[] 3)):=by
  have b:=(zM w0.heap.size w0).alloc (zN _) (.cells #[] 3);refine⟨hB0.alloc hB0.size _,hrow.below b hlt0,⟨w0.heap.size,0,by rw[zaz];rfl,?_⟩,hG⟩;rw[zaz];exact World.ownsRow_made w0 #[] 0 (by omega) (by unfold maxLen;omega) rfl
 have HD0:=hid hD0;clear hD0 hrow hB0 hlt0 hG;have SA:=hid (zak (B:=B6) (by decide) m);have SB:=hid (zak (B:=B6) (by decide) n);go_wp2;go_loopw [9,10] (λv i wr=>∃k:Nat,k<=N/\i=.int .i64 ((N:Int)-1-k)/\DivS w G N n (za8 B6 n (zaa B6 m) k).2 (za8 B6 n (zaa B6 m) k).1 v wr)
  (λ_ i _=>(zL i+1).toNat)
 case atStart=>exact⟨0,zR _,by simp,by rw[za8,<-HN.out];exact HD0.out⟩
 case round=>
  clear HD0;obtain⟨k,hk,rfl,hS⟩:=hrel;obtain⟨s1,s2,s3, -⟩:=zeo (B:=B6) hn0 SA.out k (by rw[<-HN.out];exact hk);by_cases hlt:k<N
  ·obtain⟨j,hj⟩:=zzX (N-1-k)
   have hjI:(N:Int)-1-k=(j:Int):=by omega
   rw[hjI];have hja:j<(zaa B6 m).length:=by rw[<-HN.out];omega
   obtain⟨ba,offa,rfl,hba,hcapa,hcx⟩:=(HA.out.below hS.bel).at hja;have hst:za8 B6 n (zaa B6 m) (k+1)=zdl B6 n (za8 B6 n (zaa B6 m) k) j ((zaa B6 m)[j]?.getD 0):=by rw[hj,HN.out];rfl
   have hx:=zaj SA.out (by decide) j;have hx':(zaa B6 m)[j]?.getD 0<1000000:=hx;have hjN:j<N:=by omega
   have hj2:(j:Int)-1=(N:Int)-1-((k+1:Nat):Int):=by omega
   have HJ2:=hid hj2;have HST:=hid hst;have hlenl:(za8 B6 n (zaa B6 m) k).1.length=N:=by rw[s1,HN.out]
   clear hst hx hj hj2 s1 s2 hjI;generalize za8 B6 n (zaa B6 m) k=s at*
   obtain⟨l,R⟩:=s;dsimp only at*
   generalize (zaa B6 m)[j]?.getD 0=x at*
   have hmR:x+B6*R<=m\/True:=.inr trivial;clear hmR;obtain⟨gr,cr,rfl,hor⟩:=hS.rem;obtain⟨R',hR'⟩:=zzX (x+B6*R);have hRn:R'<B6*n:=by
    have:=Nat.mul_le_mul_left B6 (show R+1<=n from s3);rw[Nat.mul_add,Nat.mul_one] at this;have hx6:x<B6:=hx';omega
   have hlR:(zaa B6 R).length<=990:=zO (zed (zT s3)) HLB.out;have hlR':(zaa B6 R').length<=1000:=by
    have h1:R'<B6^(nn+3):=by
     refine Nat.lt_of_lt_of_le hRn ?_;have:=zgb (B:=B6) (by decide) n;rw[HD.out.2.2] at this;rw[show nn+3=(nn+2)+1 from rfl,yO,yP];exact Nat.mul_le_mul_right _ (zT this)
    have h2:=zfv (B:=B6) (by decide) h1;have:=HLB.out;have:=HD.out.2.2;omega
   have HR':=hid (⟨hR',hRn,hlR,hlR'⟩:_/\_/\_/\_);have hltG:=hS.row.lt;have hown1:=ztc (w:=wr) (base:=G+1) x hltG;have hnews:=zxm (hor.alloc (.cells #[I x] 3));have HS:=hid (⟨hS,hown1,hnews,hltG,hlR⟩:_/\_/\_/\_/\_);clear hS hown1 hnews hltG hor hR' hRn hlR' hba hcapa s3;obtain⟨LR,hLR⟩:=zzX ((zaa B6 R).length);rw[<-hLR] at HS⊢;rw[<-hLR] at hlR;have HLR:=hid hLR;clear hLR;go_wp2_with (at_builtin;refine wpList_append_own _ rfl _ _ 39 rfl (G+1) 3 i0 (.int .i64 0) 1 8 Tryz.underlying39 hi hz0 hz1 hz2 rfl (by decide) _ _ _ rfl HS.out.2.1 ⟨gr,0,none⟩ LR cr ((zaa B6 R).map I) rfl (by rw[HLR.out];simp) HS.out.2.2.1 (zxn _) (by unfold maxLen;omega) (by omega) (by have:=HS.out.2.2.2.1;simp;omega) ?_);intro v' w1 hown' hgrow hnn;obtain⟨g1,c1,rfl⟩:=zqe hown' hnn;have hb1:qL wr w1:=((zM _ wr).alloc (zN _) _).grown hgrow (by simp) (λq e=>by cases e;exact zN _);have hown2:w1.ownsRow (G+1) 3 1 (.slice (some ⟨g1,0,none⟩) (1+LR) c1) (1+LR) ((x::zaa B6 R).map I):=hown';have T:=zdq _ _ _ (x::zaa B6 R) w1 (Sl.of_own hown2) (by have:=HLR.out;simp;omega);have hown3:=zgz hown2 (by have:=HLR.out;simp;omega);rw[ztq (show x<B6 from hx'),<-HR'.out.1] at T hown3;have hS1:DivS w G N n R' l (.slice (some ⟨g1,0,none⟩) (zaa B6 R').length c1) w1:=by
    have:=HS.out.1.grow hb1;exact⟨this.bel,this.row,⟨g1,c1,rfl,hown3⟩,this.hG⟩
   have LM:=hid λi=>zh4 _ (zaa B6 R') i w1 (Sl.of_own hown3) (by have:=HR'.out.2.2.2;omega);have hE:=EST.out R' HR'.out.2.1;have f2:(zaa B6 R')[D]?.getD 0=R'/B6^(nn+2)%B6:=by rw[zcp (by decide),HD.out.1,HD.out.2.2]
   have f1:(zaa B6 R')[n1]?.getD 0=R'/B6^(nn+1)%B6:=by rw[zcp (by decide),HD.out.2.1]
   have f0:(zaa B6 R')[nn]?.getD 0=R'/B6^nn%B6:=by rw[zcp (by decide)]
   rw[<-f2,<-f1,<-f0] at hE;have g2:(zaa B6 R')[D]?.getD 0<1000000:=zaj (zak (by decide) R') (by decide) _;have g1':(zaa B6 R')[n1]?.getD 0<1000000:=zaj (zak (by decide) R') (by decide) _;have g0':(zaa B6 R')[nn]?.getD 0<1000000:=zaj (zak (by decide) R') (by decide) _;have L2:=hid (LM.out D);have L1:=hid (LM.out n1);have L0:=hid (LM.out nn);clear hown' hown2 hown3 hgrow hnn hb1 HS f2 f1 f0 LM;generalize (zaa B6 R')[D]?.getD 0=t2 at*
   generalize (zaa B6 R')[n1]?.getD 0=t1 at*
   generalize (zaa B6 R')[nn]?.getD 0=t0 at*
   obtain⟨X1,hX1⟩:=zzX (t2*1000000+t1);obtain⟨X0,hX0⟩:=zzX (X1*1000000+t0);obtain⟨P1,hP1⟩:=zzX (P+1);obtain⟨q0,hq0⟩:=zzX (X0/P1);have hq:q0*n<=R'/\q0<1000000:=by
    have e:((t2*B6+t1)*B6+t0)/(u1*B6+u0+1)=q0:=by rw[hq0,hX0,hX1,hP1,HP.out];rfl
    rw[e] at hE;exact hE
   have k1:IntKind.i64.wrap ((t2:Int)*1000000)=(t2:Int)*1000000:=zI _ (by omega);have k2:IntKind.i64.wrap ((t2:Int)*1000000+t1)=(X1:Int):=by rw[show(t2:Int)*1000000+t1=(X1:Int) by omega];exact zI _ (by omega)
   have k3:IntKind.i64.wrap ((X1:Int)*1000000)=(X1:Int)*1000000:=zI _ (by omega);have k4:IntKind.i64.wrap ((X1:Int)*1000000+t0)=(X0:Int):=by rw[show(X1:Int)*1000000+t0=(X0:Int) by omega];exact zI _ (by omega)
   have k5:IntKind.i64.wrap ((P:Int)+1)=(P1:Int):=by rw[show(P:Int)+1=(P1:Int) by omega];exact zI _ (by omega)
   have k6:(X0:Int)/(P1:Int)=(q0:Int):=by rw[<-Int.natCast_ediv,<-hq0]
   have k7:¬(P1:Int)=0:=by omega
   have hq2:q0<1000000:=hq.2;have HQ:=hid hq;have HS1:=hid hS1;clear hE hX1 hX0 hP1 hq0 hq hS1 g1' g0';generalize hL':(zaa B6 R').length=L' at*
   have HL':=hid hL';clear hL';go_wp21;have hTT:=T;refine zzM hTT λw2 hw2=>?_;have hw2':=hw2.symm;subst hw2';clear T;go_wp21;refine zzM L2.out λw2 hw2=>?_;have hw2':=hw2.symm;subst hw2';go_wp21;refine zzM L1.out λw2 hw2=>?_;have hw2':=hw2.symm;subst hw2';go_wp21;refine zzM L0.out λw2 hw2=>?_;have hw2':=hw2.symm;subst hw2';clear L2 L1 L0;go_wp21;clear hTT k1 k2 k3 k4 k5 k6 k7 g2 hlR;have hb3:qL w2 (w2.alloc (.cells #[I q0] 3)):=(zM _ w2).alloc (zN _) _;have hTM:=ztg _ (.slice (some ⟨w2.heap.size,0,none⟩) 1 1) (zaa B6 n) [q0] _ (HB.out.below (HS1.out.bel.trans (hb3.mono HS1.out.bel.size))) (Sl.of_own (ztc (w:=w2) (base:=0) q0 (zR _))) SB.out (λy hy=>by rw[List.mem_singleton] at hy;subst hy;exact hq2) (zO HLB.out (by omega)) (by simp);rw[zam (B:=B6) (by decide),show valL B6 [q0]=q0 by simp[valL],<-HD.out.1] at hTM;have HTM:=hid hTM;have HB3:=hid hb3;clear hTM hb3;refine HTM.out.mono ?_;rintro e w3 ⟨v3,rfl,own3,hb4⟩;have hS3:=HS1.out.grow (HB3.out.trans (hb4.mono HB3.out.size));have hMN:=zj6 _ v3 (zaa B6 R') (zaa B6 (n*q0)) w3 hS3.sl (Sl.of_own own3) (zak (by decide) _) (zak (by decide) _) (by have:=HR'.out.2.2.2;rw[HL'.out];exact this) (zed (by rw[yP];exact HQ.out.1)) (by rw[zam (by decide),zam (by decide),yP];exact HQ.out.1);rw[zam (B:=B6) (by decide),zam (B:=B6) (by decide)] at hMN;have HS3:=hid hS3;have HMN:=hid hMN;clear HTM HB3 hS3 hMN own3 hb4 HS1;go_wp21;refine HMN.out.mono ?_;intro e w4 hr4;obtain⟨v4,rfl,hS4⟩:=HS3.out.next hr4;clear hr4 HMN HS3
   have hsum0:q0*n+(R'-n*q0)=R':=by have:=HQ.out.1;rw[yP n q0];omega
   have HINIT:=hid (⟨hS4,hsum0⟩:_/\_);clear hS4 hsum0;go_wp2;go_loopw [9,11] (λv c wr=>∃gg R2:Nat,c=.int .i64 gg/\gg*n+R2=R'/\DivS w G N n R2 l v wr)
    (λ_ c _=>R'+1-(zL c).toNat)
   case atStart=>exact⟨q0,_,rfl,HINIT.out.2,HINIT.out.1⟩
   case round=>
    clear HINIT;obtain⟨gg,R2,rfl,hsum,hS5⟩:=hrel;obtain⟨g5,c5,rfl,ho5⟩:=hS5.rem;have hR2:R2<=R':=by omega
    have hl5:(zaa B6 R2).length<=1000:=zO (zed hR2) (by rw[HL'.out];exact HR'.out.2.2.2);have hgg:gg<=R':=by have:=Nat.mul_le_mul_left gg (show 1<=n from hn0);omega
    have hg6:gg<1000000:=by
     rcases Nat.lt_or_ge gg 1000000 with h|h
     ·exact h
     ·have h1:=Nat.mul_le_mul_right n h
      have h2:R'<B6*n:=HR'.out.2.1;have:B6=1000000:=rfl;rw[this] at h2;omega
    have CZ:=hid (zu4 _ _ R2 n wr (Sl.of_own ho5) (HB.out.below hS5.bel) hl5 (zO HLB.out (by omega)));rw[<-HD.out.1] at CZ;have HS5:=hid hS5;have HSUM:=hid hsum;have HGG:=hid hgg;clear hS5 ho5 hsum hgg hR2;generalize hL5:(zaa B6 R2).length=L5 at*
    have HL5:=hid hL5;clear hL5;go_wp21;refine zzM CZ.out λw6 hb6=>?_;have HS6:=hid (HS5.out.grow hb6);clear CZ HS5 hb6;by_cases hlt2:R2<n
    ·rw[zzx hlt2]
     have hfin:gg=R'/n/\R2=R'%n:=by
      have hs:=HSUM.out;constructor
      ·rw[<-hs,Nat.add_comm,Nat.add_mul_div_right _ _ hn0,Nat.div_eq_of_lt hlt2,Nat.zero_add]
      ·rw[<-hs,Nat.add_comm,Nat.add_mul_mod_self_right,zQ hlt2]
     have HFIN:=hid hfin;have hcell:=HS6.out.row.cell (getD_some (show j<l.length by omega));have hfz:=HS6.out.row.frozen j;clear hfin hlt2;generalize l[j]?.getD 0=z at*
     go_wp2;go_roundw
     case rel=>
      refine⟨k+1,by omega,by rw[<-HJ2.out],?_⟩;have e:za8 B6 n (zaa B6 m) (k+1)=(l.set j gg,R2):=by
       rw[HST.out];show(l.set j ((x+R*B6)/n),(x+R*B6)%n)=_;rw[HFIN.out.1,HFIN.out.2,HR'.out.1,yP R B6]
      rw[e];have:=HS6.out.store j gg;exact this
     case measure=>simp[zL]
    ·have h0:=zz3 (show n<=R2 by omega)
     have hc2:¬ordN R2 n<0:=by omega
     have hMN:=zj6 _ _ (zaa B6 R2) (zaa B6 n) w6 HS6.out.sl (HB.out.below HS6.out.bel) (zak (by decide) _) SB.out (by rw[HL5.out];exact hl5) (zed (by omega)) (by rw[zam (by decide),zam (by decide)];omega);rw[zam (B:=B6) (by decide),zam (B:=B6) (by decide),<-HD.out.1] at hMN;have HMN:=hid hMN;have HGE:=hid (show n<=R2 by omega);clear hMN hlt2;generalize ordN R2 n=oc at*
     go_wp21;refine HMN.out.mono ?_;intro e w7 hr7;obtain⟨v7,rfl,hS7⟩:=HS6.out.next hr7;have HS7:=hid hS7;clear hr7 HMN hS7;go_wp2;go_roundw
     case rel=>exact⟨gg+1,R2-n,by go_num,by have:=HSUM.out;have:=HGE.out;rw[Nat.add_mul];omega,HS7.out⟩
     case measure=>have:=HGG.out;simp[zL];omega
  ·obtain rfl:k=N:=by omega
   have hend:(k:Int)-1-k= -1:=by omega
   rw[hend];obtain⟨f1,f2⟩:=zjq (B:=B6) (by decide) hn0 SA.out;rw[<-HN.out] at f1 f2 s1;rw[zam (B:=B6) (by decide)] at f1 f2;have hsl:=hS.row.sl;rw[s1] at hsl;obtain⟨gr,cr,rfl,hor⟩:=hS.rem;have hslr:=Sl.of_own hor;have HF:=hid (⟨f1,f2,s1,hslr,hS.bel⟩:_/\_/\_/\_/\_);have HSL:=hid hsl;clear f1 f2 s1 s2 s3 hsl hslr hS hor hend;generalize za8 B6 n (zaa B6 m) k=s at*
   obtain⟨l,R⟩:=s;dsimp only at*
   generalize hLR:(zaa B6 R).length=LR at*
   have HLR:=hid hLR;clear hLR;go_wp21;refine(zdq _ _ _ l wr HSL.out (by rw[HF.out.2.2.1];omega)).mono ?_;rintro e w1 ⟨rfl,rfl⟩;go_wp21;go_ret2;refine⟨_,_,rfl,?_,?_,HF.out.2.2.2.2⟩
   ·rw[<-HF.out.1]
    exact Sl.trim_at HSL.out HF.out.2.2.1
   ·rw[<-HF.out.2.1]
    exact HF.out.2.2.2.1
theorem zs1 (va vb:Value) (m n:Nat) (w:zA) (ha:Sl w va ((zaa B6 m).map I)) (hb:Sl w vb ((zaa B6 n).map I)) (la:(zaa B6 m).length<=1000) (lb:(zaa B6 n).length<=990) (hn:0<n):
 zC zF 219 #[va,vb] w (λe w'=>∃v1 v2,e=.returned (.tuple #[v1,v2])/\Sl w' v1 ((zaa B6 (m/n)).map I)/\Sl w' v2 ((zaa B6 (m%n)).map I)/\zB w.heap.size w w'):=by
 rcases Nat.lt_or_ge n B6 with h|h
 ·exact zs0 va vb m n w ha hb la hn h
 ·have h2:2<=(zaa B6 n).length:=by
   rcases Nat.lt_or_ge (zaa B6 n).length 2 with h'|h'
   ·have h1:=zgb (B:=B6) (by decide) n
    have h3:B6^(zaa B6 n).length<=B6^1:=Nat.pow_le_pow_right (by decide) (by omega);rw[Nat.pow_one] at h3;omega
   ·exact h'
  exact zqk va vb m n ((zaa B6 n).length-2) w ha hb la lb (by omega)
end Go.Proofs.YtfoodcpnnmonhaaGreatDoor
namespace Go.Proofs.YtfoodcpnnmonhaaGreatDoor
open Go.RowKit Go.Shelf Lib Str Limb
attribute [local go_sem] Oper.semAt_some
theorem ybg (va vb:Value) (m n:Nat) (w:zA) (ha:Sl w va ((zaa B6 m).map I)) (hb:Sl w vb ((zaa B6 n).map I)) (la:(zaa B6 m).length<=1000) (lb:(zaa B6 n).length<=1000):
 zC zF 227 #[va,vb] w λe w'=>∃p c k,e=.returned (.slice p k c)/\Sl w' (.slice p k c) ((zaa B6 (m+n)).map I)/\zB w.heap.size w w':=by
 have h:=z91 va vb _ _ w ha hb (zak (by decide) m) (zak (by decide) n) la lb;rw[zam (B:=B6) (by decide),zam (B:=B6) (by decide)] at h;refine h.mono ?_;intro e w' hr;obtain⟨p,c,rfl,hs,hb⟩:=z3f hr;exact⟨p,c,_,rfl,hs,hb⟩
theorem z97 (m:Bool) (vx vy:Value) (nx ny:Nat) (w:zA) (hx:Sl w vx ((zaa B6 nx).map I)) (hy:Sl w vy ((zaa B6 ny).map I)) (lx:(zaa B6 nx).length<=1000) (ly:(zaa B6 ny).length<=1000):
 zC zF 220 #[.agg #[.bool m,vx],.agg #[.bool m,vy]] w (zsb w (sgn m nx+sgn m ny)):=by
 obtain⟨px,cx,rfl, -⟩:=id hx;obtain⟨py,cy,rfl, -⟩:=id hy;simp only[zV] at*
 have hpl:=λW h1 h2=>ybg (.slice px (zaa B6 nx).length cx) (.slice py (zaa B6 ny).length cy) nx ny W h1 h2 lx ly;generalize (zaa B6 nx).length=kx at*
 generalize (zaa B6 ny).length=ky at*
 have HPL:=hid hpl;clear hpl;have HX:=hid hx;clear hx;have HY:=hid hy;clear hy;go_enter Tryz.func220,Tryz.ntmps220;go_wp2;obtain⟨W3,hW3⟩:=zzX (((w.alloc (.cells #[.bool m,.slice px kx cx] 254)).alloc (.cells #[.bool m,.slice py ky cy] 254)).alloc (.cells #[.bool false,.slice none 0 0] 254));have hB3:qL w W3:=by rw[hW3];exact(((zM _ w).alloc (zN _) _).alloc (by simp) _).alloc (by simp;omega) _
 have b2:W3.heap[w.heap.size]? =some (.cells #[.bool m,.slice px kx cx] 254 (0,0)):=by
  rw[hW3];exact(Below.heap_alloc _ _ _ (by simp only[zH];omega)).trans ((Below.heap_alloc _ _ _ (by simp only[zH];omega)).trans (heap_alloc_new w _))
 have b3:W3.heap[w.heap.size+1]? =some (.cells #[.bool m,.slice py ky cy] 254 (0,0)):=by
  rw[hW3];refine(Below.heap_alloc _ _ _ (by simp only[zH];omega)).trans ?_;have:=heap_alloc_new (w.alloc (.cells #[.bool m,.slice px kx cx] 254)) (.cells #[.bool m,.slice py ky cy] 254);rwa [zH] at this
 have b4:W3.heap[w.heap.size+1+1]? =some (.cells #[.bool false,.slice none 0 0] 254 (0,0)):=by
  rw[hW3];have:=heap_alloc_new ((w.alloc (.cells #[.bool m,.slice px kx cx] 254)).alloc (.cells #[.bool m,.slice py ky cy] 254)) (.cells #[.bool false,.slice none 0 0] 254);rwa [zH,zH] at this
 rw[<-hW3];clear hW3;have c20:∀W:zA,W.heap[w.heap.size]? =W3.heap[w.heap.size]? ->W.cell? ⟨w.heap.size,0,none⟩=some (.bool m):=λW h=>by simp[World.cell?,h,b2]
 have c21:∀W:zA,W.heap[w.heap.size]? =W3.heap[w.heap.size]? ->W.cell? ⟨w.heap.size,1,none⟩=some (.slice px kx cx):=λW h=>by simp[World.cell?,h,b2]
 have c30:∀W:zA,W.heap[w.heap.size+1]? =W3.heap[w.heap.size+1]? ->W.cell? ⟨w.heap.size+1,0,none⟩=some (.bool m):=λW h=>by simp[World.cell?,h,b3]
 have c31:∀W:zA,W.heap[w.heap.size+1]? =W3.heap[w.heap.size+1]? ->W.cell? ⟨w.heap.size+1,1,none⟩=some (.slice py ky cy):=λW h=>by simp[World.cell?,h,b3]
 have C20:=hid c20;have C21:=hid c21;have C30:=hid c30;have C31:=hid c31;clear c20 c21 c30 c31;have L3:w.heap.size+1+1<W3.heap.size:=(Array.getElem?_eq_some_iff.1 b4).1;have B4:=hid b4;clear b2 b3 b4;refine zey 6 (λW=>W.cell? ⟨w.heap.size,0,none⟩=some (.bool m)/\W.cell? ⟨w.heap.size,1,none⟩=some (.slice px kx cx)/\W.cell? ⟨w.heap.size+1,0,none⟩=some (.bool m)/\W.cell? ⟨w.heap.size+1,1,none⟩=some (.slice py ky cy))
  (by kernel_rfl) (by kernel_rfl) ⟨C20.out _ rfl,C21.out _ rfl,C30.out _ rfl,C31.out _ rfl⟩ ?_
 simp only[List.take_succ_cons,List.take_zero,List.drop_succ_cons,List.drop_zero]
 repeat(apply zer (by rfl);(focus(rintro W ⟨h1,h2,h3,h4⟩;go_simp;try with_reducible rfl));try simp only[zzQ])
 refine ze6 ?_;refine zbt (by rfl) λK hK=>?_;go_simp;refine(HPL.out W3.drew (HX.out.below (hB3.drew)) (HY.out.below hB3.drew)).mono ?_;rintro e W4 ⟨p,c,k,rfl,hs,hB4⟩;have e2:W4.heap[w.heap.size]? =W3.heap[w.heap.size]? :=hB4.block _ (by show _<W3.heap.size;omega);have e3:W4.heap[w.heap.size+1]? =W3.heap[w.heap.size+1]? :=hB4.block _ (by show _<W3.heap.size;omega);have b4:W4.heap[w.heap.size+1+1]? =some (.cells #[.bool false,.slice none 0 0] 254 (0,0)):=(hB4.block _ (by show _<W3.heap.size;omega)).trans B4.out;have hB5:qL w W4:=hB3.drew.trans (hB4.mono (by show _<=W3.heap.size;omega));have hS:=And.intro (C20.out W4 e2) (And.intro (C21.out W4 e2) (And.intro (C30.out W4 e3) (C31.out W4 e3)));have E2:=hid e2;have E3:=hid e3;clear e2 e3 hB4;have HS:=hid hs;clear hs;refine hK _ _ hS ?_;clear hK K
 try simp only[zzQ]
 refine zbt (by rfl) λK hK=>?_;go_simp;refine hK _ _ hS ?_;clear hK K
 try simp only[zzQ]
 have d0:W4.cell? ⟨w.heap.size+1+1,0,none⟩=some (.bool false):=by simp[World.cell?,b4]
 have d1:W4.cell? ⟨w.heap.size+1+1,1,none⟩=some (.slice none 0 0):=by simp[World.cell?,b4]
 have f0:W4.frozen? ⟨w.heap.size+1+1,0,none⟩=false:=by simp[World.frozen?,b4]
 have f1:W4.frozen? ⟨w.heap.size+1+1,1,none⟩=false:=by simp[World.frozen?,b4]
 refine zbt (by rfl) λK hK=>?_;go_simp;have g2:((W4.setCell ⟨w.heap.size+1+1,0,none⟩ (.bool m)).setCell ⟨w.heap.size+1+1,1,none⟩ (.slice p k c)).heap[w.heap.size]? =W3.heap[w.heap.size]? :=
  (yE _ _ _ _ (by show w.heap.size≠w.heap.size+1+1;omega)).trans ((yE _ _ _ _ (by show w.heap.size≠w.heap.size+1+1;omega)).trans E2.out)
 have g3:((W4.setCell ⟨w.heap.size+1+1,0,none⟩ (.bool m)).setCell ⟨w.heap.size+1+1,1,none⟩ (.slice p k c)).heap[w.heap.size+1]? =W3.heap[w.heap.size+1]? :=
  (yE _ _ _ _ (by show w.heap.size+1≠w.heap.size+1+1;omega)).trans ((yE _ _ _ _ (by show w.heap.size+1≠w.heap.size+1+1;omega)).trans E3.out)
 refine hK _ _ ⟨C20.out _ g2,C21.out _ g2,C30.out _ g3,C31.out _ g3⟩ ?_;clear hK K g2 g3
 try simp only[zzQ]
 refine ze7 ⟨rfl,?_⟩;have hs0:=HS.out.set d0 (λx=>by simp[I]) (.bool m);have e1:=(World.cell?_setCell_other _ _ _ (.bool m) (show(⟨w.heap.size+1+1,0,none⟩:Addr)≠⟨w.heap.size+1+1,1,none⟩ by simp)).trans d1;have hs1:=hs0.set e1 (λx=>by simp[I]) (.slice p k c);have e0:=(World.cell?_setCell_other _ _ _ (.slice p k c) (show(⟨w.heap.size+1+1,1,none⟩:Addr)≠⟨w.heap.size+1+1,0,none⟩ by simp)).trans (za9 (u:=.bool m) d0);have e2:=za9 (u:=.slice p k c) e1;have hB6:=(hB5.setCell (p:=⟨w.heap.size+1+1,0,none⟩) (by show w.heap.size<=w.heap.size+1+1;omega) (.bool m)).setCell (p:=⟨w.heap.size+1+1,1,none⟩) (by show w.heap.size<=w.heap.size+1+1;omega) (.slice p k c);clear hs0 e1 d0 d1 f0 f1 b4 hS hB5;have HS1:=hid hs1;clear hs1;go_wp2;exact bodyPost_ret (v:=.agg #[.bool m,.slice p k c]) (by simp[results,Tryz.results220,go_sem,e0,e2]) rfl ⟨m,_,_,rfl,by cases m<;>simp[sgn]<;>omega,HS1.out,hB6⟩
theorem ycn (m:Bool) (vx vy:Value) (nx ny:Nat) (hge:ny<=nx) (w:zA) (hx:Sl w vx ((zaa B6 nx).map I)) (hy:Sl w vy ((zaa B6 ny).map I)) (lx:(zaa B6 nx).length<=1000) (ly:(zaa B6 ny).length<=1000):
 zC zF 220 #[.agg #[.bool m,vx],.agg #[.bool !m,vy]] w (zsb w (sgn m nx+sgn (!m) ny)):=by
 obtain⟨px,cx,rfl, -⟩:=id hx;obtain⟨py,cy,rfl, -⟩:=id hy;simp only[zV] at*
 have hpl:=λW h1 h2=>z3e (.slice px (zaa B6 nx).length cx) (.slice py (zaa B6 ny).length cy) (zaa B6 nx) (zaa B6 ny) W h1 h2 (zak (by decide) _) (zak (by decide) _) lx (zed hge) (by rw[zam (by decide),zam (by decide)];exact hge);rw[zam (B:=B6) (by decide),zam (B:=B6) (by decide)] at hpl;have hsz:=λW h1 h2=>zu4 (.slice px (zaa B6 nx).length cx) (.slice py (zaa B6 ny).length cy) nx ny W h1 h2 lx ly;have ho:=zz3 hge;have HZ:=hid (show sgn m (nx-ny)=sgn m nx+sgn (!m) ny by cases m<;>simp[sgn]<;>omega);generalize (zaa B6 nx).length=kx at*
 generalize (zaa B6 ny).length=ky at*
 have HPL:=hid hpl;clear hpl;have HSZ:=hid hsz;clear hsz;obtain⟨W3,hW3,hB3,hz3,b2,b3,b4⟩:=z02 w m (!m) (.slice px kx cx) (.slice py ky cy);have HW3:=hid hW3;have cells:∀X:zA,qL W3 X->X.cell? ⟨w.heap.size,0,none⟩=some (.bool m)/\X.cell? ⟨w.heap.size,1,none⟩=some (.slice px kx cx)/\X.cell? ⟨w.heap.size+1,1,none⟩=some (.slice py ky cy):=λX h=>by
  have e2:=(h.block w.heap.size (by omega)).trans b2;have e3:=(h.block (w.heap.size+1) (by omega)).trans b3;refine⟨?_,?_,?_⟩<;>simp[World.cell?,e2,e3]
 have CL3:=hid cells;have H3:=hid (⟨hB3,hz3,b4,hx.below hB3,hy.below hB3⟩:_/\_/\_/\_/\_);clear cells hB3 hz3 b2 b3 b4 hW3 lx ly hx hy;generalize hoc:ordN nx ny=oc at*
 have hoc2:¬oc<0:=by omega
 go_enter Tryz.func220,Tryz.ntmps220;go_wp21;rw[<-HW3.out];refine zzM (HSZ.out W3 H3.out.2.2.2.1 H3.out.2.2.2.2) λW4 hb4=>?_;have HA:=hid (H3.out.2.2.2.1.below hb4);have HB:=hid (H3.out.2.2.2.2.below hb4);have CL:=hid λX (h:qL W4 X)=>CL3.out X (hb4.trans (h.mono hb4.size));have H4:=hid (⟨H3.out.1.trans (hb4.mono (by have:=H3.out.2.1;omega)),by have:=hb4.size;have:=H3.out.2.1;omega,(hb4.block _ (by have:=H3.out.2.1;omega)).trans H3.out.2.2.1⟩:qL w W4/\w.heap.size+3<=W4.heap.size/\W4.heap[w.heap.size+1+1]? =some (.cells #[.bool false,.slice none 0 0] 254 (0,0)));clear hb4 HSZ HW3 CL3 H3;go_wp21;refine zc4 (λ(b:Nat×Value) i=>([.pointer (some ⟨w.heap.size,0,none⟩),.bool m,.pointer (some ⟨w.heap.size,1,none⟩),.slice px kx cx,.pointer (some ⟨w.heap.size+1,1,none⟩),.slice py ky cy,b.2,.agg #[.bool m,b.2],.pointer (some ⟨b.1,0,none⟩),undef]:List Value)[i]?.getD undef)
  (BigS W4 (m) (nx-ny) 6 8 9) (by kernel_rfl) (by kernel_rfl) (0,.slice none 0 0) ⟨(zM _ W4).drew,λk=>(by cases k),λk=>(by cases k),λk=>(by cases k)⟩ λb=>?_
 refine qB (.pointer (some ⟨w.heap.size,0,none⟩)) (λf W' h=>h.congr rfl rfl rfl) ?_;refine qB (.bool m) (λf W' h=>h.congr rfl rfl rfl) ?_ (hy:=λf W' hf h=>by have g:=CL.out _ h.pre;obtain⟨q0,q1,q3⟩:=g;go_simp);refine qB (.pointer (some ⟨w.heap.size,1,none⟩)) (λf W' h=>h.congr rfl rfl rfl) ?_;simp only[zzQ];refine qB (.slice px kx cx) (λf W' h=>h.congr rfl rfl rfl) ?_ (hy:=λf W' hf h=>by have g:=CL.out _ h.pre;obtain⟨q0,q1,q3⟩:=g;go_simp);refine qB (.pointer (some ⟨w.heap.size+1,1,none⟩)) (λf W' h=>h.congr rfl rfl rfl) ?_;refine qB (.slice py ky cy) (λf W' h=>h.congr rfl rfl rfl) ?_ (hy:=λf W' hf h=>by have g:=CL.out _ h.pre;obtain⟨q0,q1,q3⟩:=g;go_simp);simp only[zzQ]
 refine zdc b.2 (by rfl) (by rfl) (λf W' hf h C' hC'=>by
  have h9:=hf.self;have h12:=(hf.no (j:=9) (hf.no (j:=7) hf.self (by kernel_rfl)) (by kernel_rfl));go_simp;refine(HPL.out W' (HA.out.below h.pre) (HB.out.below h.pre)).mono ?_;intro e w' hr;obtain⟨p,c,rfl,hs,hb⟩:=z3f hr;refine⟨_,rfl,hC' (b.1,.slice p (zaa B6 (nx-ny)).length c) w' (λi hi=>?_) (h.call h9 h12 rfl rfl rfl hb hs)⟩
  match i,hi with
  |0,_|1,_|2,_|3,_|4,_|5,_|8,_|9,_=>rfl
  |6,hi=>rw[h9] at hi;cases hi
  |7,hi=>rw[hf.no (j:=7) hf.self (by kernel_rfl)] at hi;cases hi
  |_+10,_=>rfl) ?_
 refine qB (.agg #[.bool m,b.2]) (λf W' h=>h.congr rfl rfl rfl) ?_ (hy:=λf W' hf h=>by
  obtain⟨p,c,e, -⟩:=h.cv (hf.done 6 (by kernel_rfl));obtain⟨b1,v⟩:=b;dsimp only at e;subst e;go_simp)
 try simp only[zzQ]
 refine zdc (.pointer (some ⟨b.1,0,none⟩)) (by rfl) (by rfl) (λf W' hf h C' hC'=>by
  have h12:=(hf.no (j:=9) hf.self (by kernel_rfl));have:=hC' (W'.heap.size,b.2) (W'.alloc (.cells #[.bool false,.slice none 0 0] 254)) (λi hi=>?_) (h.new h12 rfl rfl)
  ·go_simp
   exact this
  ·match i,hi with
   |0,_|1,_|2,_|3,_|4,_|5,_|6,_|7,_|9,_=>rfl
   |8,hi=>rw[hf.self] at hi;cases hi
   |_+10,_=>rfl) ?_
 try simp only[zzQ]
 refine zbv undef (by rfl) (by rfl) (λf W' hf h C' hC'=>by
  have h9:=hf.done 6 (by kernel_rfl);have h11:=hf.done 8 (by kernel_rfl);have h12:=hf.self;obtain⟨k1,k2⟩:=h.al h11;have hx:=k2 h12;have d0:W'.cell? ⟨b.1,0,none⟩=some (.bool false):=by simp[World.cell?,hx]
  have d1:W'.cell? ⟨b.1,1,none⟩=some (.slice none 0 0):=by simp[World.cell?,hx]
  have f0:W'.frozen? ⟨b.1,0,none⟩=false:=by simp[World.frozen?,hx]
  have f1:W'.frozen? ⟨b.1,1,none⟩=false:=by simp[World.frozen?,hx]
  have:=hC' _ (h.put h9 h11 h12 rfl);obtain⟨p,c,e, -⟩:=h.cv h9;rw[e] at this⊢;clear hC' h k2 hx e;go_simp;exact this) ?_
 try simp only[Act.put]
 refine ze1 λf X hf h=>?_;obtain⟨p,c,e,hs⟩:=h.cv (hf 6 (by decide));have hfin:=h.fin (hf 9 (by decide));obtain⟨k1, -⟩:=h.al (hf 8 (by decide));obtain⟨b1,v⟩:=b;dsimp only at e hfin k1 hs;subst e;have hres:=(h.pre.block (w.heap.size+1+1) (by have:=H4.out.2.1;omega)).trans H4.out.2.2;have HS:=hid hs;have HBX:=hid (H4.out.1.trans (h.pre.mono (by have:=H4.out.2.1;omega)));have hk:w.heap.size+1+1<b1:=by have:=H4.out.2.1;omega
 clear h hf hs k1;have c0:X.cell? ⟨b1,0,none⟩=some (.bool m):=by simp[World.cell?,hfin]
 have c1:X.cell? ⟨b1,1,none⟩=some (.slice p (zaa B6 (nx-ny)).length c):=by simp[World.cell?,hfin]
 have f0:X.frozen? ⟨b1,0,none⟩=false:=by simp[World.frozen?,hfin]
 have r0:X.cell? ⟨w.heap.size+1+1,0,none⟩=some (.bool false):=by simp[World.cell?,hres]
 have r1:X.cell? ⟨w.heap.size+1+1,1,none⟩=some (.slice none 0 0):=by simp[World.cell?,hres]
 have fr0:X.frozen? ⟨w.heap.size+1+1,0,none⟩=false:=by simp[World.frozen?,hres]
 have fr1:X.frozen? ⟨w.heap.size+1+1,1,none⟩=false:=by simp[World.frozen?,hres]
 have hne:w.heap.size+1+1≠b1:=by omega
 have hne2:b1≠w.heap.size+1+1:=by omega
 generalize hn:nx-ny=n at*
 clear hres hfin HPL HA HB CL H4 hn;by_cases h0:n=0
 ·subst h0
  rw[zaz] at*
  have d0:=(zau X (b:=w.heap.size+1+1) (b':=b1) 0 0 (.bool false) hne).trans r0;have d1:=(zau X (b:=w.heap.size+1+1) (b':=b1) 1 0 (.bool false) hne).trans r1;have hs1:=HS.out.set c0 (λx=>by simp[I]) (.bool false);have F:=hid (zr2 d0 d1 false (.slice p 0 c) _ [] hs1 (HBX.out.setCell (p:=⟨b1,0,none⟩) (by show w.heap.size<=b1;omega) _) (show w.heap.size<=w.heap.size+1+1 by omega));have HZ2:=hid HZ.out;clear d0 d1 hs1;simp only[List.length_nil] at*
  go_wp2;obtain⟨g0,g1,g2,g3⟩:=F.out;exact bodyPost_ret (v:=.agg #[.bool false,.slice p 0 c]) (by simp[results,Tryz.results220,go_sem,g0,g1]) rfl ⟨false,_,0,rfl,by rw[<-HZ2.out];cases m<;>simp[sgn],by rw[zaz];exact g2,g3⟩
 ·have hl0:¬(zaa B6 n).length=0:=λh=>h0 ((zbd (B:=B6) (by decide) n).1 (List.length_eq_zero_iff.1 h))
  have hlb:(((zaa B6 n).length:Int)==0)=false:=by rw[beq_eq_false_iff_ne];omega
  have F:=hid (zr2 r0 r1 (m) (.slice p (zaa B6 n).length c) _ (zaa B6 n) HS.out HBX.out (show w.heap.size<=w.heap.size+1+1 by omega));clear h0;generalize (zaa B6 n).length=L at*
  go_wp2;obtain⟨g0,g1,g2,g3⟩:=F.out;exact bodyPost_ret (v:=.agg #[.bool m,.slice p L c]) (by simp[results,Tryz.results220,go_sem,g0,g1]) rfl ⟨m,_,n,rfl,HZ.out,g2,g3⟩
theorem put2 {Y:zA} {B:Nat} {t:TypeId} {x0 x1:Value} (h:Y.heap[B]? =some (.cells #[x0,x1] t (0,0))) (y0 y1:Value):((Y.setCell ⟨B,0,none⟩ y0).setCell ⟨B,1,none⟩ y1).heap[B]? =some (.cells #[y0,y1] t (0,0)):=by
 simp[World.setCell,Array.getElem?_modify,h]
theorem yco (m:Bool) (vx vy:Value) (nx ny:Nat) (hlt:nx<ny) (w:zA) (hx:Sl w vx ((zaa B6 nx).map I)) (hy:Sl w vy ((zaa B6 ny).map I)) (lx:(zaa B6 nx).length<=1000) (ly:(zaa B6 ny).length<=1000):
 zC zF 220 #[.agg #[.bool m,vx],.agg #[.bool !m,vy]] w (zsb w (sgn m nx+sgn (!m) ny)):=by
 obtain⟨px,cx,rfl, -⟩:=id hx;obtain⟨py,cy,rfl, -⟩:=id hy;simp only[zV] at*
 have hpl:=λW h1 h2=>z3e (.slice py (zaa B6 ny).length cy) (.slice px (zaa B6 nx).length cx) (zaa B6 ny) (zaa B6 nx) W h1 h2 (zak (by decide) _) (zak (by decide) _) ly (zed (zT hlt)) (by rw[zam (by decide),zam (by decide)];exact zT hlt);rw[zam (B:=B6) (by decide),zam (B:=B6) (by decide)] at hpl;have hsz:=λW h1 h2=>zu4 (.slice px (zaa B6 nx).length cx) (.slice py (zaa B6 ny).length cy) nx ny W h1 h2 lx ly;rw[zzx hlt] at hsz;have HZ:=hid (show sgn (!m) (ny-nx)=sgn m nx+sgn (!m) ny by cases m<;>simp[sgn]<;>omega);generalize (zaa B6 nx).length=kx at*
 generalize (zaa B6 ny).length=ky at*
 have HPL:=hid hpl;clear hpl;have HSZ:=hid hsz;clear hsz;obtain⟨W3,hW3,hB3,hz3,b2,b3,b4⟩:=z02 w m (!m) (.slice px kx cx) (.slice py ky cy);have HW3:=hid hW3;have H3:=hid (⟨hB3,hz3,b4,hx.below hB3,hy.below hB3⟩:_/\_/\_/\_/\_);have HB2:=hid (⟨b2,b3⟩:_/\_);have zah:∀X:zA,qL W3 X->X.cell? ⟨w.heap.size,0,none⟩=some (.bool m)/\X.cell? ⟨w.heap.size,1,none⟩=some (.slice px kx cx)/\X.cell? ⟨w.heap.size+1,1,none⟩=some (.slice py ky cy):=λX h=>by
  have e2:=(h.block w.heap.size (by omega)).trans b2;have e3:=(h.block (w.heap.size+1) (by omega)).trans b3;refine⟨?_,?_,?_⟩<;>simp[World.cell?,e2,e3]
 clear hB3 hz3 b2 b3 b4 hW3 lx ly hx hy hlt zah;go_enter Tryz.func220,Tryz.ntmps220;go_wp21;rw[<-HW3.out];refine zzM (HSZ.out W3 H3.out.2.2.2.1 H3.out.2.2.2.2) λW4 hb4=>?_;have a2:=(hb4.block w.heap.size (by have:=H3.out.2.1;omega)).trans HB2.out.1;have a3:=(hb4.block (w.heap.size+1) (by have:=H3.out.2.1;omega)).trans HB2.out.2;have x0:W4.cell? ⟨w.heap.size,0,none⟩=some (.bool m):=by simp[World.cell?,a2]
 have x1:W4.cell? ⟨w.heap.size,1,none⟩=some (.slice px kx cx):=by simp[World.cell?,a2]
 have y0:W4.cell? ⟨w.heap.size+1,0,none⟩=some (.bool !m):=by simp[World.cell?,a3]
 have y1:W4.cell? ⟨w.heap.size+1,1,none⟩=some (.slice py ky cy):=by simp[World.cell?,a3]
 have fx0:W4.frozen? ⟨w.heap.size,0,none⟩=false:=by simp[World.frozen?,a2]
 have fx1:W4.frozen? ⟨w.heap.size,1,none⟩=false:=by simp[World.frozen?,a2]
 have fy0:W4.frozen? ⟨w.heap.size+1,0,none⟩=false:=by simp[World.frozen?,a3]
 have fy1:W4.frozen? ⟨w.heap.size+1,1,none⟩=false:=by simp[World.frozen?,a3]
 have hne:w.heap.size+1≠w.heap.size:=by omega
 have hne2:w.heap.size≠w.heap.size+1:=by omega
 obtain⟨W5,hW5⟩:=zzX ((((W4.setCell ⟨w.heap.size,0,none⟩ (.bool !m)).setCell ⟨w.heap.size,1,none⟩ (.slice py ky cy)).setCell ⟨w.heap.size+1,0,none⟩ (.bool m)).setCell ⟨w.heap.size+1,1,none⟩ (.slice px kx cx));have z2:W5.heap[w.heap.size]? =some (.cells #[.bool !m,.slice py ky cy] 254 (0,0)):=by
  rw[hW5];exact(yE _ _ _ _ (by show w.heap.size≠w.heap.size+1;omega)).trans ((yE _ _ _ _ (by show w.heap.size≠w.heap.size+1;omega)).trans (put2 a2 _ _))
 have z3:W5.heap[w.heap.size+1]? =some (.cells #[.bool m,.slice px kx cx] 254 (0,0)):=by
  rw[hW5];exact put2 ((yE _ _ _ _ (by show w.heap.size+1≠w.heap.size;omega)).trans ((yE _ _ _ _ (by show w.heap.size+1≠w.heap.size;omega)).trans a3)) _ _
 have z4:W5.heap[w.heap.size+1+1]? =some (.cells #[.bool false,.slice none 0 0] 254 (0,0)):=by
  rw[hW5];exact(yE _ _ _ _ (by show w.heap.size+1+1≠w.heap.size+1;omega)).trans ((yE _ _ _ _ (by show w.heap.size+1+1≠w.heap.size+1;omega)).trans ((yE _ _ _ _ (by show w.heap.size+1+1≠w.heap.size;omega)).trans ((yE _ _ _ _ (by show w.heap.size+1+1≠w.heap.size;omega)).trans ((hb4.block _ (by have:=H3.out.2.1;omega)).trans H3.out.2.2.1))))
 have hs5:∀(v:Value) (l:List Nat),Sl W4 v (l.map I)->Sl W5 v (l.map I):=λv l h=>by
  rw[hW5];have h1:=h.set x0 (λx=>by simp[I]) (.bool !m);have h2:=h1.set ((World.cell?_setCell_other _ _ _ (.bool !m) (show(⟨w.heap.size,0,none⟩:Addr)≠⟨w.heap.size,1,none⟩ by simp)).trans x1) (λx=>by simp[I]) (.slice py ky cy);have h3:=h2.set (((World.cell?_setCell_other _ _ _ _ (show(⟨w.heap.size,1,none⟩:Addr)≠⟨w.heap.size+1,0,none⟩ by simp)).trans (World.cell?_setCell_other _ _ _ _ (show(⟨w.heap.size,0,none⟩:Addr)≠⟨w.heap.size+1,0,none⟩ by simp))).trans y0) (λx=>by simp[I]) (.bool m);exact h3.set (((World.cell?_setCell_other _ _ _ _ (show(⟨w.heap.size+1,0,none⟩:Addr)≠⟨w.heap.size+1,1,none⟩ by simp)).trans ((World.cell?_setCell_other _ _ _ _ (show(⟨w.heap.size,1,none⟩:Addr)≠⟨w.heap.size+1,1,none⟩ by simp)).trans (World.cell?_setCell_other _ _ _ _ (show(⟨w.heap.size,0,none⟩:Addr)≠⟨w.heap.size+1,1,none⟩ by simp)))).trans y1) (λx=>by simp[I]) (.slice px kx cx)
 have hb5:qL w W5:=by
  rw[hW5];exact((((H3.out.1.trans (hb4.mono (by have:=H3.out.2.1;omega))).setCell (p:=⟨w.heap.size,0,none⟩) (zN _) _).setCell (p:=⟨w.heap.size,1,none⟩) (zN _) _).setCell (p:=⟨w.heap.size+1,0,none⟩) (by show w.heap.size<=w.heap.size+1;omega) _).setCell (p:=⟨w.heap.size+1,1,none⟩) (by show w.heap.size<=w.heap.size+1;omega) _
 have hsz5:W5.heap.size=W4.heap.size:=by rw[hW5];simp[World.setCell]
 have hsz6:w.heap.size+3<=W5.heap.size:=by have:=hb4.size;have:=H3.out.2.1;omega
 have HA:=hid (hs5 _ _ (H3.out.2.2.2.2.below hb4));have HB:=hid (hs5 _ _ (H3.out.2.2.2.1.below hb4));have cells:∀X:zA,qL W5 X->X.cell? ⟨w.heap.size,0,none⟩=some (.bool !m)/\X.cell? ⟨w.heap.size,1,none⟩=some (.slice py ky cy)/\X.cell? ⟨w.heap.size+1,1,none⟩=some (.slice px kx cx):=λX h=>by
  have e2:=(h.block w.heap.size (by omega)).trans z2;have e3:=(h.block (w.heap.size+1) (by omega)).trans z3;refine⟨?_,?_,?_⟩<;>simp[World.cell?,e2,e3]
 have CL:=hid cells;have H4:=hid (⟨hb5,hsz6,z4⟩:_/\_/\_);have HW5:=hid hW5;clear hb4 HSZ HW3 H3 HB2 a2 a3 z2 z3 z4 hs5 hb5 hsz5 hsz6 cells hW5;go_wp21;rw[<-HW5.out];clear x0 x1 y0 y1 fx0 fx1 fy0 fy1 hne hne2 HW5;refine zc4 (λ(b:Nat×Value) i=>([.pointer (some ⟨w.heap.size,0,none⟩),.bool (!m),.pointer (some ⟨w.heap.size,1,none⟩),.slice py ky cy,.pointer (some ⟨w.heap.size+1,1,none⟩),.slice px kx cx,b.2,.agg #[.bool (!m),b.2],.pointer (some ⟨b.1,0,none⟩),undef]:List Value)[i]?.getD undef)
  (BigS W5 (!m) (ny-nx) 6 8 9) (by kernel_rfl) (by kernel_rfl) (0,.slice none 0 0) ⟨(zM _ W5).drew,λk=>(by cases k),λk=>(by cases k),λk=>(by cases k)⟩ λb=>?_
 refine qB (.pointer (some ⟨w.heap.size,0,none⟩)) (λf W' h=>h.congr rfl rfl rfl) ?_;refine qB (.bool (!m)) (λf W' h=>h.congr rfl rfl rfl) ?_ (hy:=λf W' hf h=>by have g:=CL.out _ h.pre;obtain⟨q0,q1,q3⟩:=g;go_simp);refine qB (.pointer (some ⟨w.heap.size,1,none⟩)) (λf W' h=>h.congr rfl rfl rfl) ?_;simp only[zzQ];refine qB (.slice py ky cy) (λf W' h=>h.congr rfl rfl rfl) ?_ (hy:=λf W' hf h=>by have g:=CL.out _ h.pre;obtain⟨q0,q1,q3⟩:=g;go_simp);refine qB (.pointer (some ⟨w.heap.size+1,1,none⟩)) (λf W' h=>h.congr rfl rfl rfl) ?_;refine qB (.slice px kx cx) (λf W' h=>h.congr rfl rfl rfl) ?_ (hy:=λf W' hf h=>by have g:=CL.out _ h.pre;obtain⟨q0,q1,q3⟩:=g;go_simp);simp only[zzQ]
 refine zdc b.2 (by rfl) (by rfl) (λf W' hf h C' hC'=>by
  have h9:=hf.self;have h12:=(hf.no (j:=9) (hf.no (j:=7) hf.self (by kernel_rfl)) (by kernel_rfl));go_simp;refine(HPL.out W' (HA.out.below h.pre) (HB.out.below h.pre)).mono ?_;intro e w' hr;obtain⟨p,c,rfl,hs,hb⟩:=z3f hr;refine⟨_,rfl,hC' (b.1,.slice p (zaa B6 (ny-nx)).length c) w' (λi hi=>?_) (h.call h9 h12 rfl rfl rfl hb hs)⟩
  match i,hi with
  |0,_|1,_|2,_|3,_|4,_|5,_|8,_|9,_=>rfl
  |6,hi=>rw[h9] at hi;cases hi
  |7,hi=>rw[hf.no (j:=7) hf.self (by kernel_rfl)] at hi;cases hi
  |_+10,_=>rfl) ?_
 refine qB (.agg #[.bool (!m),b.2]) (λf W' h=>h.congr rfl rfl rfl) ?_ (hy:=λf W' hf h=>by
  obtain⟨p,c,e, -⟩:=h.cv (hf.done 6 (by kernel_rfl));obtain⟨b1,v⟩:=b;dsimp only at e;subst e;go_simp)
 try simp only[zzQ]
 refine zdc (.pointer (some ⟨b.1,0,none⟩)) (by rfl) (by rfl) (λf W' hf h C' hC'=>by
  have h12:=(hf.no (j:=9) hf.self (by kernel_rfl));have:=hC' (W'.heap.size,b.2) (W'.alloc (.cells #[.bool false,.slice none 0 0] 254)) (λi hi=>?_) (h.new h12 rfl rfl)
  ·go_simp
   exact this
  ·match i,hi with
   |0,_|1,_|2,_|3,_|4,_|5,_|6,_|7,_|9,_=>rfl
   |8,hi=>rw[hf.self] at hi;cases hi
   |_+10,_=>rfl) ?_
 try simp only[zzQ]
 refine zbv undef (by rfl) (by rfl) (λf W' hf h C' hC'=>by
  have h9:=hf.done 6 (by kernel_rfl);have h11:=hf.done 8 (by kernel_rfl);have h12:=hf.self;obtain⟨k1,k2⟩:=h.al h11;have hx:=k2 h12;have d0:W'.cell? ⟨b.1,0,none⟩=some (.bool false):=by simp[World.cell?,hx]
  have d1:W'.cell? ⟨b.1,1,none⟩=some (.slice none 0 0):=by simp[World.cell?,hx]
  have f0:W'.frozen? ⟨b.1,0,none⟩=false:=by simp[World.frozen?,hx]
  have f1:W'.frozen? ⟨b.1,1,none⟩=false:=by simp[World.frozen?,hx]
  have:=hC' _ (h.put h9 h11 h12 rfl);obtain⟨p,c,e, -⟩:=h.cv h9;rw[e] at this⊢;clear hC' h k2 hx e;go_simp;exact this) ?_
 try simp only[Act.put]
 refine ze1 λf X hf h=>?_;obtain⟨p,c,e,hs⟩:=h.cv (hf 6 (by decide));have hfin:=h.fin (hf 9 (by decide));obtain⟨k1, -⟩:=h.al (hf 8 (by decide));obtain⟨b1,v⟩:=b;dsimp only at e hfin k1 hs;subst e;have hres:=(h.pre.block (w.heap.size+1+1) (by have:=H4.out.2.1;omega)).trans H4.out.2.2;have HS:=hid hs;have HBX:=hid (H4.out.1.trans (h.pre.mono (by have:=H4.out.2.1;omega)));have hk:w.heap.size+1+1<b1:=by have:=H4.out.2.1;omega
 clear h hf hs k1;have c0:X.cell? ⟨b1,0,none⟩=some (.bool (!m)):=by simp[World.cell?,hfin]
 have c1:X.cell? ⟨b1,1,none⟩=some (.slice p (zaa B6 (ny-nx)).length c):=by simp[World.cell?,hfin]
 have f0:X.frozen? ⟨b1,0,none⟩=false:=by simp[World.frozen?,hfin]
 have r0:X.cell? ⟨w.heap.size+1+1,0,none⟩=some (.bool false):=by simp[World.cell?,hres]
 have r1:X.cell? ⟨w.heap.size+1+1,1,none⟩=some (.slice none 0 0):=by simp[World.cell?,hres]
 have fr0:X.frozen? ⟨w.heap.size+1+1,0,none⟩=false:=by simp[World.frozen?,hres]
 have fr1:X.frozen? ⟨w.heap.size+1+1,1,none⟩=false:=by simp[World.frozen?,hres]
 have hne:w.heap.size+1+1≠b1:=by omega
 have hne2:b1≠w.heap.size+1+1:=by omega
 generalize hn:ny-nx=n at*
 clear hres hfin HPL HA HB CL H4 hn;by_cases h0:n=0
 ·subst h0
  rw[zaz] at*
  have d0:=(zau X (b:=w.heap.size+1+1) (b':=b1) 0 0 (.bool false) hne).trans r0;have d1:=(zau X (b:=w.heap.size+1+1) (b':=b1) 1 0 (.bool false) hne).trans r1;have hs1:=HS.out.set c0 (λx=>by simp[I]) (.bool false);have F:=hid (zr2 d0 d1 false (.slice p 0 c) _ [] hs1 (HBX.out.setCell (p:=⟨b1,0,none⟩) (by show w.heap.size<=b1;omega) _) (show w.heap.size<=w.heap.size+1+1 by omega));have HZ2:=hid HZ.out;clear d0 d1 hs1;simp only[List.length_nil] at*
  go_wp2;obtain⟨g0,g1,g2,g3⟩:=F.out;exact bodyPost_ret (v:=.agg #[.bool false,.slice p 0 c]) (by simp[results,Tryz.results220,go_sem,g0,g1]) rfl ⟨false,_,0,rfl,by rw[<-HZ2.out];cases m<;>simp[sgn],by rw[zaz];exact g2,g3⟩
 ·have hl0:¬(zaa B6 n).length=0:=λh=>h0 ((zbd (B:=B6) (by decide) n).1 (List.length_eq_zero_iff.1 h))
  have hlb:(((zaa B6 n).length:Int)==0)=false:=by rw[beq_eq_false_iff_ne];omega
  have F:=hid (zr2 r0 r1 (!m) (.slice p (zaa B6 n).length c) _ (zaa B6 n) HS.out HBX.out (show w.heap.size<=w.heap.size+1+1 by omega));clear h0;generalize (zaa B6 n).length=L at*
  go_wp2;obtain⟨g0,g1,g2,g3⟩:=F.out;exact bodyPost_ret (v:=.agg #[.bool (!m),.slice p L c]) (by simp[results,Tryz.results220,go_sem,g0,g1]) rfl ⟨(!m),_,n,rfl,HZ.out,g2,g3⟩
theorem ybh (m m':Bool) (vx vy:Value) (nx ny:Nat) (w:zA) (hx:Sl w vx ((zaa B6 nx).map I)) (hy:Sl w vy ((zaa B6 ny).map I)) (lx:(zaa B6 nx).length<=1000) (ly:(zaa B6 ny).length<=1000):
 zC zF 220 #[.agg #[.bool m,vx],.agg #[.bool m',vy]] w (zsb w (sgn m nx+sgn m' ny)):=by
 by_cases h:m'=m
 ·subst h;exact z97 _ vx vy nx ny w hx hy lx ly
 ·obtain rfl:m'=!m:=by cases m<;>cases m'<;>simp at*
  rcases Nat.lt_or_ge nx ny with h|h
  ·exact yco m vx vy nx ny h w hx hy lx ly
  ·exact ycn m vx vy nx ny h w hx hy lx ly
theorem ybi (m:Bool) (vx:Value) (nx:Nat) (w:zA) (hx:Sl w vx ((zaa B6 nx).map I)) (_:(zaa B6 nx).length<=1000):
 zC zF 270 #[.agg #[.bool m,vx]] w (zsb w (-(sgn m nx))):=by
 obtain⟨px,cx,rfl, -⟩:=id hx;simp only[zV] at*
 have fin:∀q:Bool,∃F,F=(w.alloc (.cells #[.bool m,.slice px (zaa B6 nx).length cx] 254)).alloc (.cells #[.bool q,.slice px (zaa B6 nx).length cx] 254)/\F.cell? ⟨w.heap.size+1,0,none⟩=some (.bool q)/\F.cell? ⟨w.heap.size+1,1,none⟩=some (.slice px (zaa B6 nx).length cx)/\Sl F (.slice px (zaa B6 nx).length cx) ((zaa B6 nx).map I)/\zB w.heap.size w F:=λq=>by
  have hb2:qL w ((w.alloc (.cells #[.bool m,.slice px (zaa B6 nx).length cx] 254)).alloc (.cells #[.bool q,.slice px (zaa B6 nx).length cx] 254)):=((zM _ w).alloc (zN _) _).alloc (by simp) _;have A:=heap_alloc_new (w.alloc (.cells #[.bool m,.slice px (zaa B6 nx).length cx] 254)) (.cells #[.bool q,.slice px (zaa B6 nx).length cx] 254);rw[zH] at A;exact⟨_,rfl,cell_of_row _ _ _ _ _ _ A,cell_of_row _ _ _ _ _ _ A,hx.below hb2,hb2⟩
 by_cases h0:nx=0
 ·obtain⟨F,hF,g0,g1,g2,g3⟩:=fin m
  have HF:=hid (⟨hF,g0,g1,g2,g3⟩:_/\_/\_/\_/\_);have hl:(zaa B6 nx).length=0:=by rw[h0,zaz];rfl
  have HZ:=hid (show sgn m nx= -(sgn m nx) by rw[h0];cases m<;>simp[sgn]);clear fin hF g0 g1 g2 g3 hx h0;rw[hl] at HF⊢;go_enter Tryz.func270,Tryz.ntmps270;go_wp2;rw[<-HF.out.1];obtain⟨-,g0,g1,g2,g3⟩:=HF.out;exact bodyPost_ret (v:=.agg #[.bool m,.slice px 0 cx]) (by simp[results,Tryz.results270,go_sem,g0,g1]) rfl ⟨m,_,nx,rfl,HZ.out,g2,g3⟩
 ·obtain⟨F,hF,g0,g1,g2,g3⟩:=fin (!m)
  have HF:=hid (⟨hF,g0,g1,g2,g3⟩:_/\_/\_/\_/\_);have hl:¬(zaa B6 nx).length=0:=λh=>h0 ((zbd (B:=B6) (by decide) nx).1 (List.length_eq_zero_iff.1 h));have hlb:(((zaa B6 nx).length:Int)==0)=false:=by rw[beq_eq_false_iff_ne];omega
  have HZ:=hid (show sgn (!m) nx= -(sgn m nx) by cases m<;>simp[sgn]);clear fin hF g0 g1 g2 g3 hx h0;generalize (zaa B6 nx).length=L at*
  go_enter Tryz.func270,Tryz.ntmps270;go_wp2;rw[<-HF.out.1];obtain⟨-,g0,g1,g2,g3⟩:=HF.out;exact bodyPost_ret (v:=.agg #[.bool (!m),.slice px L cx]) (by simp[results,Tryz.results270,go_sem,g0,g1]) rfl ⟨!m,_,nx,rfl,HZ.out,g2,g3⟩
end Go.Proofs.YtfoodcpnnmonhaaGreatDoor
