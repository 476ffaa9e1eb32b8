/- The contracts of strings.Builder's writing methods and of strings.Trim at an ASCII cutset, out of the kit's library, at this seat's translation. -/
import Derived.Test.YtfoodcpnnmonhaaGreatDoorZ01
import Derived.Shelf.Strings.BuilderK
import Derived.Shelf.Strings.SlTrimAscii
import Derived.Lib.ItoaNum
import Derived.Lib.AtoiTie
import Derived.Lib.AtoiAllCases
import Derived.WalkKit
import Derived.OwnWalk
import Derived.LoopTactic
import Derived.Outline
import Derived.Below
import Derived.Deep.QuietTactic
import Derived.BigQuiet
import Derived.WalkSpells
import Derived.WalkLawsBesides
import Derived.Lib.Hide
import Derived.Lib.AtoiErrMem
import Derived.Deep.RegionHeld3
import Derived.Deep.DrawnRows
import Derived.StillTailTactics
import Derived.Laws.AppendOwn
import Derived.Deep.LoopGhost
import Derived.Deep.Quiet
import Derived.RangeFuncNested
import Derived.RangeFuncBound
import Derived.RangeFuncCalls
import Derived.RangeFuncLeaves
import Derived.RangeFuncBox
import Derived.RangeFuncWrites
import Derived.Shelf.Abstract
import Derived.Shelf.RegionOpen
import Derived.OwnWalkIn
import Derived.TacticsInMore
import Derived.LoopNIn
import Derived.LoopIn
import Derived.Sort.EveryDepth
import Derived.OrdersIn
import Derived.Orders
import Derived.OrdersHeld
import Derived.StillTail
set_option maxRecDepth 100000
set_option maxHeartbeats 8000000
open Go renaming World → zA, Calls → zC
open Go.RowKit renaming Below → zB, intOf → zL
open Go.Lib renaming decDigits → zD, itoa → zE
open Go.Proofs.Tryz renaming prog → zF
open Go.IntWalk renaming i64_in → zI
open Go.RowKit.Below renaming refl → zM
open Nat renaming le_refl → zN, mod_lt → zP, zero_le → zR, pow_le_pow_right → yF, pow_succ → yO, mul_comm → yP
open List renaming length_map → zV, length_take → zX, length_cons → yA
namespace Go.Proofs
open Go.Shelf Go.RowKit
def Tryz.lays167_ren:Go.Shelf.Ren:=⟨λ |167=>250|240=>253|276=>287|n=>n,λ |0=>0|4=>4|5=>5|9=>9|20=>20|37=>228|70=>227|72=>230|75=>186|164=>302|80=>233|n=>n,λ |n=>n⟩
theorem Tryz.lays167:Go.Proofs.Lays.n167 zF Tryz.lays167_ren:={
 mixed:=by kernel_rfl
 f167:=Tryz.func250.trans (congrArg some (by kernel_rfl))
 f240:=Tryz.func253.trans (congrArg some (by kernel_rfl))
 f276:=Tryz.func287.trans (congrArg some (by kernel_rfl))
 t0:=Tryz.underlying0
 a0:=Tryz.isAgg0
 z0:=Tryz.sizeOf0
 v0:=Tryz.zeroValue0
 t4:=Tryz.underlying4
 a4:=Tryz.isAgg4
 z4:=Tryz.sizeOf4
 v4:=Tryz.zeroValue4
 t5:=Tryz.underlying5
 a5:=Tryz.isAgg5
 z5:=Tryz.sizeOf5
 v5:=Tryz.zeroValue5
 t9:=Tryz.underlying9
 a9:=Tryz.isAgg9
 z9:=Tryz.sizeOf9
 v9:=Tryz.zeroValue9
 t20:=Tryz.underlying20
 a20:=Tryz.isAgg20
 z20:=Tryz.sizeOf20
 v20:=Tryz.zeroValue20
 t37:=Tryz.underlying228
 a37:=Tryz.isAgg228
 z37:=Tryz.sizeOf228
 v37:=Tryz.zeroValue228
 t70:=Tryz.underlying227
 a70:=Tryz.isAgg227
 z70:=Tryz.sizeOf227
 v70:=Tryz.zeroValue227
 t72:=Tryz.underlying230
 a72:=Tryz.isAgg230
 z72:=Tryz.sizeOf230
 v72:=Tryz.zeroValue230
 t75:=Tryz.underlying186
 a75:=Tryz.isAgg186
 z75:=Tryz.sizeOf186
 v75:=Tryz.zeroValue186
 t164:=Tryz.underlying302
 a164:=Tryz.isAgg302
 z164:=Tryz.sizeOf302
 v164:=Tryz.zeroValue302}
def Tryz.lays166_ren:Go.Shelf.Ren:=⟨λ |166=>189|240=>253|276=>287|n=>n,λ |0=>0|3=>3|4=>4|9=>9|20=>20|37=>228|70=>227|72=>230|75=>186|164=>302|80=>233|n=>n,λ |n=>n⟩
theorem Tryz.lays166:Go.Proofs.Lays.n166 zF Tryz.lays166_ren:={
 mixed:=by kernel_rfl
 f166:=Tryz.func189.trans (congrArg some (by kernel_rfl))
 f240:=Tryz.func253.trans (congrArg some (by kernel_rfl))
 f276:=Tryz.func287.trans (congrArg some (by kernel_rfl))
 t0:=Tryz.underlying0
 a0:=Tryz.isAgg0
 z0:=Tryz.sizeOf0
 v0:=Tryz.zeroValue0
 t3:=Tryz.underlying3
 a3:=Tryz.isAgg3
 z3:=Tryz.sizeOf3
 v3:=Tryz.zeroValue3
 t4:=Tryz.underlying4
 a4:=Tryz.isAgg4
 z4:=Tryz.sizeOf4
 v4:=Tryz.zeroValue4
 t9:=Tryz.underlying9
 a9:=Tryz.isAgg9
 z9:=Tryz.sizeOf9
 v9:=Tryz.zeroValue9
 t20:=Tryz.underlying20
 a20:=Tryz.isAgg20
 z20:=Tryz.sizeOf20
 v20:=Tryz.zeroValue20
 t37:=Tryz.underlying228
 a37:=Tryz.isAgg228
 z37:=Tryz.sizeOf228
 v37:=Tryz.zeroValue228
 t70:=Tryz.underlying227
 a70:=Tryz.isAgg227
 z70:=Tryz.sizeOf227
 v70:=Tryz.zeroValue227
 t72:=Tryz.underlying230
 a72:=Tryz.isAgg230
 z72:=Tryz.sizeOf230
 v72:=Tryz.zeroValue230
 t75:=Tryz.underlying186
 a75:=Tryz.isAgg186
 z75:=Tryz.sizeOf186
 v75:=Tryz.zeroValue186
 t164:=Tryz.underlying302
 a164:=Tryz.isAgg302
 z164:=Tryz.sizeOf302
 v164:=Tryz.zeroValue302}
theorem Tryz.Builder_Extra_167:Builder.Extra zF Tryz.lays167_ren where
 sizeBuilder:=by kernel_rfl
 liesBuilder:=by kernel_rfl
 t5:=Tryz.underlying5
 a5:=Tryz.isAgg5
 z5:=Tryz.sizeOf5
 v5:=Tryz.zeroValue5
 infoByte:=by kernel_rfl
 cellsByte:=by kernel_rfl
 sizeByte:=by kernel_rfl
 neB5:=by decide
theorem Tryz.Builder_Extra_166:Builder.Extra zF Tryz.lays166_ren where
 sizeBuilder:=by kernel_rfl
 liesBuilder:=by kernel_rfl
 t5:=Tryz.underlying5
 a5:=Tryz.isAgg5
 z5:=Tryz.sizeOf5
 v5:=Tryz.zeroValue5
 infoByte:=by kernel_rfl
 cellsByte:=by kernel_rfl
 sizeByte:=by kernel_rfl
 neB5:=by decide
theorem Tryz.WriteByte_k (B b:Nat) (bs:List Value) (c:Int) (w:zA) (h:Lib.IsBuilderF 230 5 B b bs w) (hlen:bs.length+1<=140737488355328) (hBw:B<=w.heap.size):
 zC zF 250 #[.pointer (some ⟨b,0,none⟩),.int .u8 c] w λe w'=>e=.returned .nilIface/\(Lib.BuilderAtF 230 5 B b (.pointer (some ⟨b,0,none⟩)) (bs++[.int .u8 c]) w'/\zB B w w'/\Lib.OthersKept 5 (some b) w w'):=
 Any.Builder_WriteByte_k Tryz.lays167 Tryz.Builder_Extra_167 B b bs c w h hlen hBw
theorem Tryz.WriteString_k (B b:Nat) (bs:List Value) (s:ByteArray) (w:zA) (h:Lib.IsBuilderF 230 5 B b bs w) (hlen:bs.length+s.size<=140737488355328) (hBw:B<=w.heap.size):
 zC zF 189 #[.pointer (some ⟨b,0,none⟩),.string s] w λe w'=>e=.returned (.tuple #[.int .i64 s.size,.nilIface])/\(Lib.BuilderAtF 230 5 B b (.pointer (some ⟨b,0,none⟩)) (bs++Lib.strCells s) w'/\zB B w w'/\Lib.OthersKept 5 (some b) w w'):=
 Any.Builder_WriteString_k Tryz.lays166 Tryz.Builder_Extra_166 B b bs s w h hlen hBw
theorem Tryz.String_k (B b:Nat) (l:List UInt8) (w:zA) (h:Lib.IsBuilderF 230 5 B b (Lib.byteCells l) w) (hBw:B<=w.heap.size):
 zC zF 191 #[.pointer (some ⟨b,0,none⟩)] w λe w'=>e=.returned (.string ⟨l.toArray⟩)/\(Lib.IsBuilderF 230 5 B b (Lib.byteCells l) w'/\zB B w w'/\Lib.OthersKept 5 (some b) w w'):=
 Any.Builder_String_any_k Tryz.lays169 Tryz.Builder_Extra_169 B b l w h hBw
theorem Tryz.Trim_ascii (s cutset:ByteArray) (w:zA) (hs:s.size<=9223372036854775807) (hcs:cutset.size<4294967281) (hascii:∀(j:Nat) b,cutset.data.toList[j]? =some b->b.toNat<128):
 zC zF 238 #[.string s,.string cutset] w λe w'=>e=.returned (.string ⟨(Lib.trimS s.data.toList cutset.data.toList).toArray⟩)/\zB w.heap.size w w':=
 Any.strings_Trim_laid Tryz.lays160 (by kernel_rfl) s cutset w hs hcs hascii
#print axioms Tryz.WriteString_k
#print axioms Tryz.Trim_ascii
end Go.Proofs
namespace Go.Proofs.YtfoodcpnnmonhaaGreatDoor.Str
open Go.Lib
def val (l:List UInt8):Nat:=l.foldl (λa c=>10*a+(c.toNat-48)) 0
theorem zyb:val []=0:=rfl
theorem zde (l:List UInt8) (c:UInt8):val (l++[c])=10*val l+(c.toNat-48):=by simp[val]
def zcb (l:List UInt8):Prop:=l≠[]/\(∀c∈l,48<=c.toNat/\c.toNat<=57)/\(l.head? =some 48->l.length=1)
theorem ofNat_toNat {n:Nat} (h:n<256):(UInt8.ofNat n).toNat=n:=by
 simp;omega
theorem zae {n:Nat} (h:n<10):zD n=[UInt8.ofNat (48+n)]:=by rw[zD,dif_pos h]
theorem zav {n:Nat} (h:10<=n):zD n=zD (n/10)++[UInt8.ofNat (48+n%10)]:=by rw[zD,dif_neg (by omega)]
theorem zi4 {n d:Nat} (h:0<n) (hd:d<10):zD (10*n+d)=zD n++[UInt8.ofNat (48+d)]:=by
 rw[zav (by omega),show(10*n+d)/10=n by omega,show(10*n+d)%10=d by omega]
theorem zci (n:Nat):zD n≠[]:=by
 intro h;have:=decDigits_length n;have:=nDigits_pos n;rw[h] at*;simp at*;omega
theorem zan (n:Nat):∀c∈zD n,48<=c.toNat/\c.toNat<=57:=by
 induction n using Nat.strongRecOn with
 |_ n ih=>
  by_cases h:n<10
  ·rw[zae h];intro c hc
   simp only[List.mem_singleton] at hc;subst hc;rw[ofNat_toNat (by omega)];omega
  ·rw[zav (by omega)];intro c hc
   rcases List.mem_append.1 hc with hc|hc
   ·exact ih _ (by omega) c hc
   ·simp only[List.mem_singleton] at hc
    subst hc;rw[ofNat_toNat (by omega)];omega
theorem zb2 (n:Nat):val (zD n)=n:=by
 induction n using Nat.strongRecOn with
 |_ n ih=>
  by_cases h:n<10
  ·rw[zae h];simp[val];omega
  ·rw[zav (by omega),zde,ih _ (by omega),ofNat_toNat (by omega)];omega
theorem zfk {m n:Nat} (h:zD m=zD n):m=n:=by rw[<-zb2 m,<-zb2 n,h]
theorem zmm (n:Nat) (h:(zD n).head? =some 48):n=0:=by
 induction n using Nat.strongRecOn with
 |_ n ih=>
  by_cases hs:n<10
  ·rw[zae hs] at h
   simp only[List.head?_cons,Option.some.injEq] at h;have:=congrArg UInt8.toNat h;rw[ofNat_toNat (by omega)] at this;simp at this;omega
  ·rw[zav (by omega),List.head?_append] at h
   cases hd:(zD (n/10)).head? with
   |none=>exact absurd (List.head?_eq_none_iff.1 hd) (zci _)
   |some c=>
    rw[hd] at h;have:=ih (n/10) (by omega) (by rw[hd];simpa using h);omega
theorem zhr (n:Nat):zcb (zD n):=
 ⟨zci n,zan n,λh=>by rw[zmm n h,decDigits_length,nDigits_small (by omega)]⟩
theorem zdj:zD 0=[48]:=by rw[zae (by omega)];rfl
theorem snoc_cases {α:Type}:∀(l:List α),l≠[]->∃i x,l=i++[x]
 |[],h=>absurd rfl h
 |a::r,_=>⟨(a::r).dropLast,(a::r).getLast (by simp),(List.dropLast_concat_getLast (by simp)).symm⟩
theorem zr7 (n:Nat):∀l:List UInt8,l.length=n->zcb l->l=zD (val l)/\(l.head? ≠some 48->0<val l):=by
 induction n with
 |zero=>intro l hl ⟨h,_⟩;exact absurd (List.length_eq_zero_iff.1 hl) h
 |succ n ih=>
  intro l hl ⟨hne,hd,hz⟩;obtain⟨i,x,rfl⟩:=snoc_cases l hne;have hx:=hd x (by simp);have hx8:UInt8.ofNat (48+(x.toNat-48))=x:=by
   rw[show 48+(x.toNat-48)=x.toNat by omega];exact UInt8.ofNat_toNat
  by_cases hi:i=[]
  ·subst hi
   simp only[List.nil_append] at*
   have hv:val [x]=x.toNat-48:=by simp[val]
   refine⟨?_,λh=>?_⟩
   ·rw[hv,zae (by omega),hx8]
   ·rw[hv]
    have:x.toNat≠48:=λe=>h (by
     have:x=48:=UInt8.toNat_inj.1 (by simpa using e);rw[this];rfl)
    omega
  ·have hh:(i++[x]).head? =i.head? :=by
    cases i with
    |nil=>exact absurd rfl hi
    |cons a r=>rfl
   have hnz:i.head? ≠some 48:=λe=>by
    have:=hz (hh.trans e);simp at this;exact hi this
   have ⟨e1,e2⟩:=ih i (by simpa using hl) ⟨hi,λc hc=>hd c (by simp[hc]),λe=>absurd e hnz⟩;have hp:=e2 hnz;refine⟨?_,λ_=>?_⟩
   ·rw[zde,zi4 hp (by omega),hx8,<-e1]
   ·rw[zde];omega
theorem zdd {l:List UInt8} (h:zcb l):zD (val l)=l:=(zr7 l.length l rfl h).1.symm
theorem zn9 (n k:Nat) (hk:0<k):nDigits n<=k↔n<10^k:=by
 constructor
 ·intro h;exact Nat.lt_of_lt_of_le (lt_pow_nDigits n) (yF (by decide) h)
 ·induction n using Nat.strongRecOn generalizing k with
  |_ n ih=>
   intro h;by_cases hs:n<10
   ·rw[nDigits_small hs];exact hk
   ·rw[nDigits_big hs]
    obtain⟨j,rfl⟩:∃j,k=j+1:=⟨k-1,by omega⟩;have hj:0<j:=by
     rcases Nat.eq_zero_or_pos j with rfl|h'
     ·simp at h;omega
     ·exact h'
    have:=ih (n/10) (by omega) j hj (by rw[yO] at h;omega);omega
theorem zaf (n k:Nat) (hk:0<k):(zD n).length<=k↔n<10^k:=by rw[decDigits_length];exact zn9 n k hk
theorem dec_head (n:Nat):∃c r,zD n=c::r/\48<=c.toNat/\c.toNat<=57:=by
 cases h:zD n with
 |nil=>exact absurd h (zci n)
 |cons c r=>exact⟨c,r,rfl,zan n c (by rw[h];simp)⟩
theorem zad (n:Nat):zE (n:Int)=zD n:=by
 unfold zE;rw[if_neg (by omega)];simp
theorem zga (n:Nat) (h:0<n):zE (-(n:Int))=45::zD n:=by
 unfold zE;rw[if_pos (by omega)];simp
theorem zb9:zE 0=[48]:=by
 have:=zad 0;rw[zdj] at this;simpa using this
theorem zmn:zE 1=[49]:=by
 have:=zad 1;rw[zae (by omega)] at this;simpa using this
theorem zdo {a b:Int} (h:zE a=zE b):a=b:=by
 unfold zE at h;obtain⟨c,r,e,h1,h2⟩:=dec_head a.toNat
 obtain⟨c',r',e',h1',h2'⟩:=dec_head b.toNat
 split at h<;>split at h
 ·have:=zfk (List.cons.inj h).2;omega
 ·rw[e'] at h
  have:=congrArg UInt8.toNat (List.cons.inj h).1;simp at this;omega
 ·rw[e] at h
  have:=congrArg UInt8.toNat (List.cons.inj h).1;simp at this;omega
 ·have:=zfk h;omega
def digs (a:Int):Nat:=(zD a.natAbs).length
theorem za3 (a:Int) (k:Nat) (hk:0<k):digs a<=k↔a.natAbs<10^k:=zaf _ _ hk
theorem zbn (a:Int):1<=digs a:=by unfold digs;rw[decDigits_length];exact nDigits_pos _
theorem zqo (a:Int):(zE a).length=digs a+if a<0 then 1 else 0:=by
 unfold zE digs;split
 ·simp
 ·simp[show a.toNat=a.natAbs by omega]
theorem zbr (a:Int):digs a<=(zE a).length:=by rw[zqo];omega
theorem za7 (a:Int):(zE a).length<=digs a+1:=by rw[zqo];split<;>omega
theorem zbg (a:Int):(0<=a/\zE a=zD a.natAbs)\/(a<0/\zE a=45::zD a.natAbs):=by
 unfold zE;split
 ·exact .inr ⟨by assumption,rfl⟩
 ·exact .inl ⟨by omega,by rw[show a.toNat=a.natAbs by omega]⟩
theorem zsm {c:UInt8} (h:48<=c.toNat/\c.toNat<=57):digitVal c=some (c.toNat-48):=by
 unfold digitVal;rw[if_pos h]
theorem zl1:∀(l:List UInt8) (acc:Nat),(∀c∈l,48<=c.toNat/\c.toNat<=57)->decFrom acc l=some (l.foldl (λa c=>10*a+(c.toNat-48)) acc)
 |[],acc,_=>rfl
 |c::r,acc,h=>by
  have hc:=h c (by simp);have:=zl1 r (acc*10+(c.toNat-48)) (λx hx=>h x (by simp[hx]));simp only[decFrom,zsm hc,List.foldl_cons];rw[this,yP acc 10]
theorem zm8 (n:Nat):decNat (zD n)=some n:=by
 unfold decNat
 have:(zD n).isEmpty=false:=by
  cases h:zD n with
  |nil=>exact absurd h (zci n)
  |cons=>rfl
 rw[this,if_neg (by simp),zl1 _ _ (zan n)];exact congrArg some (zb2 n)
theorem zv2 (a:Int):atoi (zE a)=some a:=by
 rcases zbg a with⟨h,e⟩|⟨h,e⟩<;>rw[e]
 ·obtain⟨c,r,e2,h1,h2⟩:=dec_head a.natAbs
  have hd:=zm8 a.natAbs;rw[e2] at hd⊢;have n1:(c==45)=false:=by
   apply beq_eq_false_iff_ne.2;intro e3;rw[e3] at h1;simp at h1
  have n2:(c==43)=false:=by
   apply beq_eq_false_iff_ne.2;intro e3;rw[e3] at h1;simp at h1
  simp[atoi,n1,n2,hd];omega
 ·simp[atoi,zm8];omega
end Go.Proofs.YtfoodcpnnmonhaaGreatDoor.Str
namespace Go.Proofs.YtfoodcpnnmonhaaGreatDoor.Limb
def valL (B:Nat):List Nat->Nat
 |[]=>0
 |x::r=>x+B*valL B r
theorem zir (B:Nat):∀l m:List Nat,valL B (l++m)=valL B l+B^l.length*valL B m
 |[],m=>by simp[valL]
 |x::r,m=>by
  simp only[List.cons_append,valL,zir B r m,yA,yO];rw[Nat.mul_add,Nat.add_assoc,<-Nat.mul_assoc,yP B (B^r.length)]
theorem zcm (B:Nat) (l:List Nat) (x:Nat):valL B (l++[x])=valL B l+B^l.length*x:=by
 rw[zir];simp[valL]
def zal (B:Nat) (l:List Nat):Prop:=∀x∈l,x<B
theorem zqp {B:Nat} {l m:List Nat}:zal B (l++m)↔zal B l/\zal B m:=by
 unfold zal;simp only[List.mem_append];exact⟨λh=>⟨λx hx=>h x (.inl hx),λx hx=>h x (.inr hx)⟩,λh x hx=>hx.elim (h.1 x) (h.2 x)⟩
theorem zg4 {B:Nat} {l:List Nat} {x:Nat} (h:zal B l) (hx:x<B):zal B (l++[x]):=
 zqp.2 ⟨h,λy hy=>by simp only[List.mem_singleton] at hy;omega⟩
theorem zkm (B:Nat):zal B []:=λ_ h=>by cases h
theorem zcu {B:Nat} {l:List Nat} (h:zal B l) (k:Nat):zal B (l.take k):=λx hx=>h x (List.mem_of_mem_take hx)
theorem zg5 {B:Nat} {l:List Nat} (h:zal B l) (k:Nat):zal B (l.drop k):=λx hx=>h x (List.mem_of_mem_drop hx)
theorem zv3 {B:Nat} {l:List Nat} (h:zal B l) {k x:Nat} (hx:l[k]? =some x):x<B:=h x (List.mem_of_getElem? hx)
theorem zaj {B:Nat} {l:List Nat} (h:zal B l) (hB:0<B) (k:Nat):l[k]?.getD 0<B:=by
 cases hx:l[k]? with
 |none=>simpa using hB
 |some x=>simpa using zv3 h hx
theorem zb6 {B:Nat}:∀{l:List Nat},zal B l->valL B l<B^l.length
 |[],_=>by simp[valL]
 |x::r,h=>by
  have hx:x<B:=h x (by simp);have ih:=zb6 (l:=r) λy hy=>h y (by simp[hy]);simp only[valL,yA,yO,yP (B^r.length) B];have:B*valL B r+B<=B*B^r.length:=by
   rw[<-Nat.mul_succ];exact Nat.mul_le_mul_left _ ih
  omega
def zat (l:List Nat):List Nat:=(l.reverse.dropWhile (· ==0)).reverse
theorem zou:zat []=[]:=rfl
theorem zew (l:List Nat):zat (l++[0])=zat l:=by simp[zat]
theorem zhs (l:List Nat) {x:Nat} (h:x≠0):zat (l++[x])=l++[x]:=by
 simp[zat,h]
theorem snoc_cases {α:Type}:∀(l:List α),l=[]\/∃i x,l=i++[x]
 |[]=>.inl rfl
 |a::r=>.inr ⟨(a::r).dropLast,(a::r).getLast (by simp),(List.dropLast_concat_getLast (by simp)).symm⟩
theorem zg6 (n:Nat):∀l:List Nat,l.length=n->∃k,k<=l.length/\zat l=l.take k/\(∀B,valL B (zat l)=valL B l)/\(zat l=[]\/∃i x,zat l=i++[x]/\x≠0):=by
 induction n with
 |zero=>intro l h;have:=List.length_eq_zero_iff.1 h;subst this;exact⟨0,by simp,rfl,λ_=>rfl,.inl rfl⟩
 |succ n ih=>
  intro l h;rcases snoc_cases l with rfl|⟨i,x,rfl⟩
  ·simp at h
  by_cases hx:x=0
  ·subst hx
   obtain⟨k,hk,e,hv,hz⟩:=ih i (by simpa using h);refine⟨k,by simp;omega,?_,λB=>?_,?_⟩
   ·rw[zew,e,List.take_append_of_le_length hk]
   ·rw[zew,hv,zcm];simp
   ·rw[zew];exact hz
  ·exact⟨(i++[x]).length,zN _,by rw[zhs _ hx,List.take_length],λB=>by rw[zhs _ hx],.inr ⟨i,x,zhs _ hx,hx⟩⟩
theorem zkn (l:List Nat):(zat l).length<=l.length:=by
 obtain⟨k,hk,e,_⟩:=zg6 _ l rfl;rw[e,zX];omega
theorem zjo (l:List Nat):zat l=l.take (zat l).length:=by
 obtain⟨k,hk,e,_⟩:=zg6 _ l rfl;have:(zat l).length=k:=by rw[e];simp;omega
 rw[this];exact e
theorem zv4 (B:Nat) (l:List Nat):valL B (zat l)=valL B l:=by
 obtain⟨k,hk,_,e,_⟩:=zg6 _ l rfl;exact e B
theorem zsn {B:Nat} {l:List Nat} (h:zal B l):zal B (zat l):=by rw[zjo];exact zcu h _
theorem zm9 (l:List Nat):zat l=[]\/∃i x,zat l=i++[x]/\x≠0:=by
 obtain⟨k,hk,_,_,e⟩:=zg6 _ l rfl;exact e
def zaa (B n:Nat):List Nat:=
 if _h:n=0\/B<2 then[] else(n%B)::zaa B (n/B)
 termination_by n
 decreasing_by exact Nat.div_lt_self (by omega) (by omega)
theorem zaz (B:Nat):zaa B 0=[]:=by rw[zaa,dif_pos (.inl rfl)]
theorem zfl {B n:Nat} (hB:2<=B) (hn:n≠0):zaa B n=(n%B)::zaa B (n/B):=by rw[zaa,dif_neg (by omega)]
theorem zam {B:Nat} (hB:2<=B) (n:Nat):valL B (zaa B n)=n:=by
 induction n using Nat.strongRecOn with
 |_ n ih=>
  by_cases h:n=0
  ·subst h;rw[zaz];rfl
  ·rw[zfl hB h,valL,ih _ (Nat.div_lt_self (by omega) (by omega))];exact Nat.mod_add_div n B
theorem zak {B:Nat} (hB:2<=B) (n:Nat):zal B (zaa B n):=by
 induction n using Nat.strongRecOn with
 |_ n ih=>
  by_cases h:n=0
  ·subst h;rw[zaz];exact zkm B
  ·rw[zfl hB h];intro x hx
   rcases List.mem_cons.1 hx with rfl|hx
   ·exact zP _ (by omega)
   ·exact ih _ (Nat.div_lt_self (by omega) (by omega)) x hx
theorem zqq {B:Nat} (hB:2<=B):∀l:List Nat,zal B l->(l=[]\/∃i x,l=i++[x]/\x≠0)->l=zaa B (valL B l)
 |[],_,_=>by rw[valL,zaz]
 |a::r,hs,hz=>by
  have ha:a<B:=hs a (by simp);have hr:r=[]\/∃i x,r=i++[x]/\x≠0:=by
   rcases snoc_cases r with h|⟨j,y,rfl⟩
   ·exact .inl h
   ·refine .inr ⟨j,y,rfl,?_⟩
    rcases hz with hz|⟨i,x,e,hx⟩
    ·simp at hz
    ·have:(a::j)++[y]=i++[x]:=e
     have:=(List.append_inj' this rfl).2;simp at this;omega
  have ih:=zqq hB r (λx hx=>hs x (by simp[hx])) hr;have hne:valL B (a::r)≠0:=by
   rcases hr with rfl|⟨j,y,rfl,hy⟩
   ·rcases hz with hz|⟨i,x,e,hx⟩
    ·cases hz
    ·have:=(List.append_inj' (show([]:List Nat)++[a]=i++[x] from e) rfl).2
     simp at this;subst this;simp[valL];exact hx
   ·simp only[valL,zcm,Nat.mul_add]
    have:0<B*(B^j.length*y):=Nat.mul_pos (by omega) (Nat.mul_pos (Nat.pow_pos (by omega)) (by omega));omega
  rw[zfl hB hne];have e1:valL B (a::r)%B=a:=by simp only[valL];rw[Nat.add_mul_mod_self_left,Nat.mod_eq_of_lt ha]
  have e2:valL B (a::r)/B=valL B r:=by simp only[valL];rw[Nat.add_mul_div_left _ _ (by omega),Nat.div_eq_of_lt ha,Nat.zero_add]
  rw[e1,e2,<-ih]
theorem zbu {B:Nat} (hB:2<=B) {l:List Nat} (h:zal B l):zat l=zaa B (valL B l):=by
 have:=zqq hB _ (zsn h) (zm9 l);rw[zv4] at this;exact this
theorem zg7 {B:Nat} (hB:2<=B) (n:Nat):zaa B n=[]\/∃i x,zaa B n=i++[x]/\x≠0:=by
 have:zat (zaa B n)=zaa B n:=by rw[zbu hB (zak hB n),zam hB]
 rw[<-this];exact zm9 _
theorem zbd {B:Nat} (hB:2<=B) (n:Nat):zaa B n=[]↔n=0:=by
 constructor
 ·intro h;rw[<-zam hB n,h];rfl
 ·rintro rfl;exact zaz B
theorem zgb {B:Nat} (hB:2<=B) (n:Nat):n<B^(zaa B n).length:=by
 have:=zb6 (zak hB n);rw[zam hB] at this;exact this
theorem zmo {B:Nat} (hB:2<=B) {n:Nat} (hn:n≠0):B^((zaa B n).length-1)<=n:=by
 rcases zg7 hB n with h|⟨i,x,h,hx⟩
 ·exact absurd ((zbd hB n).1 h) hn
 ·have hv:=zam hB n
  rw[h] at hv⊢;rw[zcm] at hv;simp only[List.length_append,yA,List.length_nil,Nat.zero_add,Nat.add_sub_cancel];have:B^i.length*1<=B^i.length*x:=Nat.mul_le_mul_left _ (by omega);omega
theorem zfv {B:Nat} (hB:2<=B) {n k:Nat} (h:n<B^k):(zaa B n).length<=k:=by
 by_cases hn:n=0
 ·subst hn;rw[zaz];simp
 ·have:=zmo hB hn
  have h2:B^((zaa B n).length-1)<B^k:=Nat.lt_of_le_of_lt this h;have:=(Nat.pow_lt_pow_iff_right (by omega)).1 h2;omega
theorem zc2 {B:Nat} (hB:2<=B) {m n:Nat} (h:(zaa B m).length<(zaa B n).length):m<n:=by
 have h1:=zgb hB m;have h2:n≠0:=λe=>by subst e;rw[zaz] at h;simp at h
 have h3:=zmo hB h2;have h4:B^(zaa B m).length<=B^((zaa B n).length-1):=yF (by omega) (by omega);omega
theorem zbo (l:List Nat) (k:Nat) (B:Nat):valL B (l.take (k+1))=valL B (l.take k)+B^k*l[k]?.getD 0:=by
 by_cases h:k<l.length
 ·rw[List.take_succ_eq_append_getElem h,zcm,zX,Nat.min_eq_left (by omega)]
  simp[h]
 ·rw[List.take_of_length_le (by omega),List.take_of_length_le (by omega),List.getElem?_eq_none (by omega)];simp
theorem zdu (l:List Nat) (k:Nat) (B:Nat) (h:k<l.length):valL B (l.drop k)=l[k]+B*valL B (l.drop (k+1)):=by
 rw[List.drop_eq_getElem_cons h];rfl
theorem zc7 (B:Nat) (l:List Nat) (k:Nat):valL B l=valL B (l.take k)+B^(l.take k).length*valL B (l.drop k):=by
 rw[<-zir,List.take_append_drop]
def zaq (f:Nat->Nat->Nat->Nat×Nat) (a b:List Nat):Nat->List Nat×Nat
 |0=>([],0)
 |k+1=>let r:=zaq f a b k;let s:=f (a[k]?.getD 0) (b[k]?.getD 0) r.2;(r.1++[s.1],s.2)
theorem zdk (f:Nat->Nat->Nat->Nat×Nat) (a b:List Nat):∀k,(zaq f a b k).1.length=k
 |0=>rfl
 |k+1=>by simp[zaq,zdk f a b k]
def za6 (B x y c:Nat):Nat×Nat:=((x+y+c)%B,(x+y+c)/B)
def za1 (B x y c:Nat):Nat×Nat:=if y+c<=x then(x-y-c,0) else(x+B-y-c,1)
theorem zna {B:Nat} (hB:2<=B) {a b:List Nat} (ha:zal B a) (hb:zal B b):∀k,
 zal B (zaq (za6 B) a b k).1/\(zaq (za6 B) a b k).2<=1/\
  valL B (zaq (za6 B) a b k).1+B^k*(zaq (za6 B) a b k).2=valL B (a.take k)+valL B (b.take k)
 |0=>⟨zkm B,by simp[zaq],by simp[zaq,valL]⟩
 |k+1=>by
  obtain⟨h1,h2,h3⟩:=zna hB ha hb k;have hx:=zaj ha (by omega) k;have hy:=zaj hb (by omega) k;have hl:=zdk (za6 B) a b k;simp only[zaq];generalize zaq (za6 B) a b k=r at*
  obtain⟨o,c⟩:=r;rw[zbo,zbo];generalize a[k]?.getD 0=x at*
  generalize b[k]?.getD 0=y at*
  simp only[za6] at*
  refine⟨zg4 h1 (zP _ (by omega)),?_,?_⟩
  ·have:(x+y+c)/B<2:=Nat.div_lt_of_lt_mul (by omega)
   omega
  ·rw[zcm,hl,yO]
   have e:=Nat.mod_add_div (x+y+c) B;generalize (x+y+c)%B=m at*
   generalize (x+y+c)/B=q at*
   have:B^k*m+B^k*B*q=B^k*(x+y+c):=by rw[<-e,Nat.mul_add,Nat.mul_assoc]
   rw[Nat.mul_add,Nat.mul_add] at this;omega
theorem zov {B:Nat} (hB:2<=B) {a b:List Nat} (ha:zal B a) (hb:zal B b):
 zat (zaq (za6 B) a b (max a.length b.length+1)).1=zaa B (valL B a+valL B b):=by
 obtain⟨h1,h2,h3⟩:=zna hB ha hb (max a.length b.length+1);rw[zbu hB h1];congr 1;rw[List.take_of_length_le (by omega),List.take_of_length_le (by omega)] at h3;have ea:=zb6 ha;have eb:=zb6 hb;have la:B^a.length<=B^max a.length b.length:=yF (by omega) (by omega);have lb:B^b.length<=B^max a.length b.length:=yF (by omega) (by omega);generalize max a.length b.length=m at*
 generalize (zaq (za6 B) a b (m+1)).2=c at*
 rcases Nat.eq_zero_or_pos c with rfl|hc
 ·omega
 ·have:c=1:=by omega
  subst this;rw[yO] at h3;have:B^m*2<=B^m*B:=Nat.mul_le_mul_left _ hB;omega
theorem zlo {B:Nat} (hB:2<=B) {a b:List Nat} (ha:zal B a) (hb:zal B b):∀k,
 zal B (zaq (za1 B) a b k).1/\(zaq (za1 B) a b k).2<=1/\
  valL B (zaq (za1 B) a b k).1+valL B (b.take k)=valL B (a.take k)+B^k*(zaq (za1 B) a b k).2
 |0=>⟨zkm B,by simp[zaq],by simp[zaq,valL]⟩
 |k+1=>by
  obtain⟨h1,h2,h3⟩:=zlo hB ha hb k;have hx:=zaj ha (by omega) k;have hy:=zaj hb (by omega) k;have hl:=zdk (za1 B) a b k;simp only[zaq];generalize zaq (za1 B) a b k=r at*
  obtain⟨o,c⟩:=r;rw[zbo,zbo];generalize a[k]?.getD 0=x at*
  generalize b[k]?.getD 0=y at*
  simp only[za1] at*
  split
  ·refine⟨zg4 h1 (by omega),by simp,?_⟩
   rw[zcm,hl];simp only[Nat.mul_zero,Nat.add_zero];have:B^k*(x-y-c)+B^k*y+B^k*c=B^k*x:=by rw[<-Nat.mul_add,<-Nat.mul_add];congr 1;omega
   omega
  ·refine⟨zg4 h1 (by omega),by simp,?_⟩
   rw[zcm,hl,yO];simp only[Nat.mul_one];have:B^k*(x+B-y-c)+B^k*y+B^k*c=B^k*x+B^k*B:=by rw[<-Nat.mul_add,<-Nat.mul_add,<-Nat.mul_add];congr 1;omega
   omega
theorem znb {B:Nat} (hB:2<=B) {a b:List Nat} (ha:zal B a) (hb:zal B b) (h:valL B b<=valL B a) (k:Nat) (hk1:a.length<=k) (hk2:b.length<=k):
 zat (zaq (za1 B) a b k).1=zaa B (valL B a-valL B b):=by
 obtain⟨h1,h2,h3⟩:=zlo hB ha hb k;rw[zbu hB h1];congr 1;have e1:=zb6 h1;rw[zdk] at e1;rw[List.take_of_length_le hk1,List.take_of_length_le hk2] at h3;generalize (zaq (za1 B) a b k).2=c at*
 rcases Nat.eq_zero_or_pos c with rfl|hc
 ·omega
 ·have:c=1:=by omega
  subst this;omega
theorem zgc (B:Nat):∀(l:List Nat) (j v:Nat),j<l.length->valL B (l.set j v)+B^j*l[j]?.getD 0=valL B l+B^j*v
 |[],j,v,h=>by simp at h
 |x::r,0,v,_=>by simp[valL];omega
 |x::r,j+1,v,h=>by
  have ih:=zgc B r j v (by simpa using h);simp only[List.set_cons_succ,valL,List.getElem?_cons_succ,yO];have e:B*(valL B (r.set j v)+B^j*r[j]?.getD 0)=B*(valL B r+B^j*v):=by rw[ih]
  rw[Nat.mul_add,Nat.mul_add,<-Nat.mul_assoc,<-Nat.mul_assoc,yP B (B^j)] at e;omega
theorem zfm {B:Nat} {l:List Nat} (h:zal B l) (j:Nat) {v:Nat} (hv:v<B):zal B (l.set j v):=by
 intro x hx;rcases List.mem_or_eq_of_mem_set hx with h'|h'
 ·exact h x h'
 ·omega
def zay (B x:Nat) (b:List Nat) (i:Nat) (out:List Nat):Nat->List Nat×Nat
 |0=>(out,0)
 |k+1=>let r:=zay B x b i out k;let n:=r.1[i+k]?.getD 0+x*b[k]?.getD 0+r.2;(r.1.set (i+k) (n%B),n/B)
theorem zfw {B:Nat} (hB:2<=B) {x:Nat} {b:List Nat} (hx:x<B) (hb:zal B b) (i:Nat) {out:List Nat} (ho:zal B out):∀k,i+k<=out.length->
 (zay B x b i out k).1.length=out.length/\zal B (zay B x b i out k).1/\(zay B x b i out k).2<B/\
   valL B (zay B x b i out k).1+B^(i+k)*(zay B x b i out k).2=valL B out+B^i*(x*valL B (b.take k))
 |0,_=>⟨rfl,ho,by simp[zay];omega,by simp[zay,valL]⟩
 |k+1,hk=>by
  obtain⟨h1,h2,h3,h4⟩:=zfw hB hx hb i ho k (by omega);have hy:=zaj hb (by omega) k;simp only[zay];rw[zbo];generalize zay B x b i out k=r at*
  obtain⟨l,c⟩:=r;simp only at*
  have hz:=zaj h2 (by omega) (i+k);have hs:=λv=>zgc B l (i+k) v (by omega);generalize b[k]?.getD 0=y at*
  generalize l[i+k]?.getD 0=z at*
  have hn:z+x*y+c<B*B:=by
   have:x*y<=(B-1)*(B-1):=Nat.mul_le_mul (by omega) (by omega);have e:(B-1)*(B-1)+2*(B-1)+1=B*B:=by
    obtain⟨m,rfl⟩:∃m,B=m+1:=⟨B-1,by omega⟩;simp only[Nat.add_sub_cancel];rw[Nat.mul_add,Nat.add_mul];omega
   omega
  refine⟨by simp[h1],zfm h2 _ (zP _ (by omega)),Nat.div_lt_of_lt_mul hn,?_⟩;have e:=Nat.mod_add_div (z+x*y+c) B;have hs':=hs ((z+x*y+c)%B);generalize (z+x*y+c)%B=m at*
  generalize (z+x*y+c)/B=q at*
  have e2:B^(i+k)*m+B^(i+k)*B*q=B^(i+k)*z+B^(i+k)*(x*y)+B^(i+k)*c:=by
   rw[<-Nat.mul_add,<-Nat.mul_add,<-e,Nat.mul_add,Nat.mul_assoc]
  rw[show i+(k+1)=i+k+1 by omega,yO];have e3:B^i*(x*(valL B (b.take k)+B^k*y))=B^i*(x*valL B (b.take k))+B^(i+k)*(x*y):=by
   rw[Nat.mul_add,Nat.mul_add,Nat.pow_add,Nat.mul_assoc (B^i) (B^k),<-Nat.mul_assoc x,yP x (B^k),Nat.mul_assoc]
  rw[e3];omega
def zbp (B:Nat) (a b:List Nat):Nat->List Nat
 |0=>List.replicate (a.length+b.length+1) 0
 |i+1=>(zay B (a[i]?.getD 0) b i (zbp B a b i) (b.length+1)).1
theorem zgd (B n:Nat):valL B (List.replicate n 0)=0:=by
 induction n with
 |zero=>rfl
 |succ n ih=>rw[List.replicate_succ,valL,ih];simp
theorem zdf {B:Nat} (hB:2<=B) {a b:List Nat} (ha:zal B a) (hb:zal B b):∀i,i<=a.length->
 (zbp B a b i).length=a.length+b.length+1/\zal B (zbp B a b i)/\valL B (zbp B a b i)=valL B (a.take i)*valL B b
 |0,_=>⟨by simp[zbp],λx hx=>by have:=List.eq_of_mem_replicate hx;omega,by simp[zbp,zgd,valL]⟩
 |i+1,hi=>by
  obtain⟨h1,h2,h3⟩:=zdf hB ha hb i (by omega);have hx:=zaj ha (by omega) i;obtain⟨r1,r2,r3,r4⟩:=zfw hB hx hb i h2 (b.length+1) (by omega);refine⟨by rw[zbp,r1,h1],r2,?_⟩;rw[zbp,zbo];rw[List.take_of_length_le (by omega),h3] at r4;have e:=zb6 r2;have hat:=zb6 (zcu ha (i+1));rw[zbo,zX,Nat.min_eq_left hi] at hat
  have hbl:=zb6 hb;generalize (zay B (a[i]?.getD 0) b i (zbp B a b i) (b.length+1)).1=o at*
  generalize (zay B (a[i]?.getD 0) b i (zbp B a b i) (b.length+1)).2=c at*
  generalize a[i]?.getD 0=x at*
  rw[Nat.add_mul,<-Nat.mul_assoc (B^i)] at*
  rcases Nat.eq_zero_or_pos c with rfl|hc
  ·omega
  ·have h5:valL B (a.take i)*valL B b+B^i*x*valL B b<B^(i+1)*B^b.length:=by
    rw[<-Nat.add_mul];have hb0:0<B^b.length:=Nat.pow_pos (by omega);have:(valL B (a.take i)+B^i*x)*valL B b<=(valL B (a.take i)+B^i*x)*B^b.length:=Nat.mul_le_mul_left _ (by omega);have:(valL B (a.take i)+B^i*x)*B^b.length<B^(i+1)*B^b.length:=Nat.mul_lt_mul_of_pos_right hat hb0;omega
   rw[<-Nat.pow_add,show i+1+b.length=i+(b.length+1) by omega] at h5;have:B^(i+(b.length+1))*1<=B^(i+(b.length+1))*c:=Nat.mul_le_mul_left _ hc;omega
theorem zjp {B:Nat} (hB:2<=B) {a b:List Nat} (ha:zal B a) (hb:zal B b):zat (zbp B a b a.length)=zaa B (valL B a*valL B b):=by
 obtain⟨_,h2,h3⟩:=zdf hB ha hb a.length (zN _);rw[zbu hB h2,h3,List.take_length]
theorem zem {B:Nat} {a b:List Nat} (ha:zal B a) (_:zal B b) (hl:a.length=b.length) (k:Nat) (hk:k<a.length)
 (he:a.drop (k+1)=b.drop (k+1)) (hlt:a[k]?.getD 0<b[k]?.getD 0):valL B a<valL B b:=by
 have ea:=zc7 B a (k+1);have eb:=zc7 B b (k+1);rw[he] at ea;have l1:(a.take (k+1)).length=k+1:=by simp;omega
 have l2:(b.take (k+1)).length=k+1:=by simp;omega
 rw[l1,zbo] at ea;rw[l2,zbo] at eb;have h1:=zb6 (zcu ha k);rw[zX,Nat.min_eq_left (by omega)] at h1;have:B^k*(a[k]?.getD 0)+B^k<=B^k*(b[k]?.getD 0):=by rw[<-Nat.mul_succ];exact Nat.mul_le_mul_left _ hlt
 omega
theorem zoa {a b:List Nat} (hl:a.length=b.length) (h:∀i,i<a.length->a[i]?.getD 0=b[i]?.getD 0):a=b:=by
 apply List.ext_getElem hl;intro i h1 h2;have:=h i h1;simpa [h1,h2] using this
theorem ztr {a b:List Nat} (hl:a.length=b.length) (k:Nat) (h:∀i,k<i->i<a.length->a[i]?.getD 0=b[i]?.getD 0):a.drop (k+1)=b.drop (k+1):=by
 apply zoa (by simp[hl]);intro i hi;simp only[List.length_drop] at hi;have:=h (k+1+i) (by omega) (by omega);simpa using this
def zdl (B d:Nat) (s:List Nat×Nat) (i x:Nat):List Nat×Nat:=(s.1.set i ((x+s.2*B)/d),(x+s.2*B)%d)
def za8 (B d:Nat) (l:List Nat):Nat->List Nat×Nat
 |0=>(List.replicate l.length 0,0)
 |k+1=>zdl B d (za8 B d l k) (l.length-1-k) (l[l.length-1-k]?.getD 0)
theorem zeo {B d:Nat} {l:List Nat} (hd:0<d) (hs:zal B l):∀k,k<=l.length->
 (za8 B d l k).1.length=l.length/\zal B (za8 B d l k).1/\(za8 B d l k).2<d/\
   valL B ((za8 B d l k).1.drop (l.length-k))*d+(za8 B d l k).2=valL B (l.drop (l.length-k))
 |0,_=>by
  refine⟨by simp[za8],λx hx=>?_,hd,?_⟩
  ·have hx0:=List.eq_of_mem_replicate hx
   have hne:l≠[]:=λh=>by subst h;simp[za8] at hx
   obtain⟨y,hy⟩:=List.exists_mem_of_ne_nil l hne;have:=hs y hy;omega
  ·simp[za8,valL]
 |k+1,hk=>by
  obtain⟨h1,h2,h3,h4⟩:=zeo hd hs k (by omega);have hi:l.length-1-k<l.length:=by omega
  have hx:l[l.length-1-k]?.getD 0<B:=by
   have:=hs (l[l.length-1-k]) (List.getElem_mem hi);simpa [hi] using this
  have e1:l.length-(k+1)=l.length-1-k:=by omega
  have e2:l.length-1-k+1=l.length-k:=by omega
  simp only[za8,zdl];generalize za8 B d l k=s at*
  obtain⟨q,r⟩:=s;simp only at*
  have hlx:l[l.length-1-k]?.getD 0=l[l.length-1-k]:=by simp[hi]
  have hq:(l[l.length-1-k]?.getD 0+r*B)/d<B:=by
   apply Nat.div_lt_of_lt_mul;have:(r+1)*B<=d*B:=Nat.mul_le_mul_right _ h3;rw[Nat.add_mul] at this;omega
  refine⟨by simp[h1],zfm h2 _ hq,zP _ hd,?_⟩;rw[e1,zdu l _ B hi,zdu (q.set _ _) _ B (by simp;omega),e2];rw[List.drop_set_of_lt (by omega),List.getElem_set_self,<-h4];rw[hlx] at*
  have e:=Nat.mod_add_div (l[l.length-1-k]+r*B) d;generalize (l[l.length-1-k]+r*B)%d=m at*
  generalize (l[l.length-1-k]+r*B)/d=t at*
  generalize valL B (q.drop (l.length-k))=v at*
  rw[Nat.mul_add,Nat.add_mul,Nat.mul_assoc,yP B r,yP t d];omega
theorem zjq {B d:Nat} (hB:2<=B) {l:List Nat} (hd:0<d) (hs:zal B l):
 zat (za8 B d l l.length).1=zaa B (valL B l/d)/\(za8 B d l l.length).2=valL B l%d:=by
 obtain⟨h1,h2,h3,h4⟩:=zeo hd hs l.length (zN _);simp only[Nat.sub_self,List.drop_zero] at h4;rw[zbu hB h2];generalize (za8 B d l l.length).2=r at*
 generalize valL B (za8 B d l l.length).1=q at*
 rw[<-h4,yP q d];exact⟨by rw[Nat.mul_add_div hd,Nat.div_eq_of_lt h3,Nat.add_zero],by rw[Nat.mul_add_mod,Nat.mod_eq_of_lt h3]⟩
theorem zpg {B:Nat} (hB:2<=B) {x:Nat} (hx:x<B):zat [x]=zaa B x:=by
 have hsm:zal B [x]:=by intro y hy;rw[List.mem_singleton] at hy;omega
 rw[zbu hB hsm];simp[valL]
end Go.Proofs.YtfoodcpnnmonhaaGreatDoor.Limb
namespace Go.Proofs.YtfoodcpnnmonhaaGreatDoor
theorem zzQ:(∀(a:Act) (v:Value),a.put none v=a)/\(∀(a:Act) (i:Nat) (v:Value),a.put (some i) v={a with tmps:=a.tmps.setIfInBounds i v})/\(∀(α:Type) (l:List α) (i:Nat) (a:α),l.toArray.setIfInBounds i a=(l.set i a).toArray)/\(∀(α:Type) (x:α) (l:List α) (a:α),(x::l).set 0 a=a::l)/\(∀(α:Type) (x:α) (l:List α) (i:Nat) (a:α),(x::l).set (i+1) a=x::l.set i a):=⟨λ_ _=>rfl,λ_ _ _=>rfl,λ_ _ _ _=>List.setIfInBounds_toArray ..,λ_ _ _ _=>rfl,λ_ _ _ _ _=>rfl⟩
theorem zzU {b:Bool} (h:some undef=some (Value.bool b)):False:=Value.noConfusion (Option.some.inj h)
open Go.RowKit
structure Wd (w:zA):Prop where
 tab:Lib.TabIs zF w "internal/strconv.uint64pow10" .u64 Lib.pow10Tab
 maxl:∃m,w.cell? ⟨5,0,none⟩=some (.int .i64 m)
theorem zbe {w:zA} {a:Addr} {v:Value} (h:w.cell? a=some v):a.block<w.heap.size:=World.block_lt_of_cell? w a h
theorem zv5 {w:zA} {n:String} {cs:Array Value} {g:Nat} (hg:Tryz.prog.globalNamed n=some g) (h:w.var? zF n=some cs):g<w.heap.size:=by
 rcases Nat.lt_or_ge g w.heap.size with h'|h'
 ·exact h'
 ·simp[World.var?,hg,Array.getElem?_eq_none h'] at h
theorem Wd.below {w w':zA} (h:Wd w) (hb:zB w.heap.size w w'):Wd w':=by
 obtain⟨ht,m,hm⟩:=h;have hg:Tryz.prog.globalNamed "internal/strconv.uint64pow10" =some 2:=by kernel_rfl
 exact⟨var?_below hb hg (zv5 hg ht) ht,m,by rw[hb.cell (zbe hm)];exact hm⟩
theorem zum {w w':zA} (h:∃k os,w'=Go.Sort.grow (w.drewN k) os):zB w.heap.size w w':=by
 obtain⟨k,os,rfl⟩:=h
 exact⟨rfl,rfl,rfl,by simp[Go.Sort.grow],λi hi=>by
  show((w.drewN k).heap++os)[i]? =_;rw[Array.getElem?_append_left (by exact hi)];rfl⟩
theorem zb3 (n:Int) (h0: -9223372036854775808<=n) (h1:n<=9223372036854775807) (w:zA) (hw:Wd w):
 zC zF 33 #[.int .i64 n] w λe w'=>e=.returned (.string ⟨(Lib.itoa n).toArray⟩)/\zB w.heap.size w w':=
 (Tryz.strconv_Itoa n h0 h1 w hw.tab).mono λ_ _ h=>⟨h.1,zum h.2⟩
theorem znc (x:Int) (h:(Lib.itoa x).length<=18) (w:zA):
 zC zF 150 #[.string ⟨(Lib.itoa x).toArray⟩] w λe w'=>e=.returned (.tuple #[.int .i64 x,.nilIface])/\zB w.heap.size w w':=
 (Tryz.strconv_Atoi ⟨(Lib.itoa x).toArray⟩ x h (Str.zv2 x) w).mono λ_ _ h=>⟨h.1,by obtain⟨t,e⟩:=h.2;rw[e];exact Lib.bytesWorld_below _ _ _⟩
abbrev St (l:List UInt8):Value:=.string ⟨l.toArray⟩
def Sl (w:zA) (v:Value) (xs:List Value):Prop:=
 ∃p cap,v=.slice p xs.length cap/\xs.length<=cap/\∀i x,xs[i]? =some x->∃b off,p=some ⟨b,off,none⟩/\w.cell? ⟨b,off+i,none⟩=some x
theorem Sl.cases {w:zA} {v:Value} {xs:List Value} (h:Sl w v xs):(xs=[]/\∃p cap,v=.slice p 0 cap)\/
 (xs≠[]/\∃b off cap,v=.slice (some ⟨b,off,none⟩) xs.length cap/\xs.length<=cap/\b<w.heap.size/\∀i x,xs[i]? =some x->w.cell? ⟨b,off+i,none⟩=some x):=by
 obtain⟨p,cap,rfl,hcap,hc⟩:=h
 cases xs with
 |nil=>exact .inl ⟨rfl,p,cap,rfl⟩
 |cons x r=>
  obtain⟨b,off,rfl,h0⟩:=hc 0 x rfl;refine .inr ⟨by simp,b,off,cap,rfl,hcap,zbe h0,λi y hy=>?_⟩;obtain⟨b',off',e,h'⟩:=hc i y hy;cases e;exact h'
theorem Sl.mk {w:zA} {b off cap:Nat} {xs:List Value} (hcap:xs.length<=cap) (hc:∀i x,xs[i]? =some x->w.cell? ⟨b,off+i,none⟩=some x):Sl w (.slice (some ⟨b,off,none⟩) xs.length cap) xs:=
 ⟨_,_,rfl,hcap,λi x h=>⟨b,off,rfl,hc i x h⟩⟩
theorem Sl.below {w w':zA} {v:Value} {xs:List Value} (h:Sl w v xs) (hb:zB w.heap.size w w'):Sl w' v xs:=by
 obtain⟨p,cap,e,hcap,hc⟩:=h;refine⟨p,cap,e,hcap,λi x hx=>?_⟩;obtain⟨b,off,ep,h'⟩:=hc i x hx;exact⟨b,off,ep,by rw[hb.cell (zbe h')];exact h'⟩
def zql (v:Value) (k:Nat):Value:=match v with
 | .slice p _ cap=>.slice p k cap
 |x=>x
theorem Sl.take {w:zA} {v:Value} {xs:List Value} (h:Sl w v xs) {k:Nat} (hk:k<=xs.length):Sl w (zql v k) (xs.take k):=by
 obtain⟨p,cap,rfl,hcap,hc⟩:=h;refine⟨p,cap,?_,by rw[zX];omega,λi x hx=>?_⟩
 ·simp[zql,Nat.min_eq_left hk]
 ·rw[List.getElem?_take] at hx
  split at hx
  ·exact hc i x hx
  ·cases hx
theorem Sl.nil (w:zA):Sl w (.slice none 0 0) []:=⟨none,0,rfl,zN _,λi x h=>by simp at h⟩
abbrev I (x:Nat):Value:=.int .i64 x
theorem Sl.of_own {w:zA} {base:Nat} {e:TypeId} {v:Value} {n:Nat} {xs:List Value} (h:w.ownsRow base e 1 v n xs):Sl w v xs:=by
 obtain⟨hl,h⟩:=h;rw[Nat.mul_one] at hl h;rcases h with⟨rfl,rfl⟩|⟨g,cap,cur,rfl,_,hg,hn,_,hs,ht⟩
 ·have:=List.length_eq_zero_iff.1 hl
  subst this;exact Sl.nil w
 ·subst hl
  refine⟨_,cap,rfl,hn,λi x hx=>⟨g,0,rfl,?_⟩⟩;rw[<-ht,List.getElem?_take] at hx;split at hx
  ·simp only[World.cell?,hg,Nat.zero_add]
   simpa using hx
  ·cases hx
def Row (w:zA) (g cap:Nat) (l:List Nat):Prop:=
 ∃cur,w.heap[g]? =some (.cells cur 3 (0,0))/\l.length<=cap/\cap<=maxLen/\cur.size=cap/\cur.toList.take l.length=l.map I
theorem Row.cell {w:zA} {g cap:Nat} {l:List Nat} (h:Row w g cap l) {j x:Nat} (hx:l[j]? =some x):w.cell? ⟨g,j,none⟩=some (I x):=by
 obtain⟨cur,hg,_,_,_,ht⟩:=h;have e:(l.map I)[j]? =some (I x):=by simp[hx]
 rw[<-ht,List.getElem?_take] at e;split at e
 ·simp only[World.cell?,hg]
  simpa using e
 ·cases e
theorem Row.frozen {w:zA} {g cap:Nat} {l:List Nat} (h:Row w g cap l) (j:Nat):w.frozen? ⟨g,j,none⟩=false:=by
 obtain⟨cur,hg,_⟩:=h;simp[World.frozen?,hg]
theorem Row.lt {w:zA} {g cap:Nat} {l:List Nat} (h:Row w g cap l):g<w.heap.size:=by
 obtain⟨cur,hg,_⟩:=h;exact(Array.getElem?_eq_some_iff.1 hg).1
theorem Row.below {w w':zA} {B g cap:Nat} {l:List Nat} (h:Row w g cap l) (hb:zB B w w') (hg:g<B):Row w' g cap l:=by
 obtain⟨cur,hg',h⟩:=h;exact⟨cur,by rw[hb.block g hg];exact hg',h⟩
theorem Row.set {w:zA} {g cap:Nat} {l:List Nat} (h:Row w g cap l) (j v:Nat):Row (w.setCell ⟨g,j,none⟩ (I v)) g cap (l.set j v):=by
 obtain⟨cur,hg,h1,h2,h3,h4⟩:=h;refine⟨cur.setIfInBounds j (I v),?_,by simpa using h1,h2,by simpa using h3,?_⟩
 ·simp[World.setCell,Array.getElem?_modify,hg]
 ·rw[List.length_set,Array.toList_setIfInBounds,List.take_set,h4,List.map_set]
theorem Row.sl {w:zA} {g cap:Nat} {l:List Nat} (h:Row w g cap l):Sl w (.slice (some ⟨g,0,none⟩) l.length cap) (l.map I):=by
 have hc:=h;obtain⟨cur,hg,h1,_⟩:=h
 have:=Sl.mk (w:=w) (b:=g) (off:=0) (cap:=cap) (xs:=l.map I) (by simpa using h1) (λi x hx=>by
  rw[List.getElem?_map] at hx
  cases hl:l[i]? with
  |none=>rw[hl] at hx;cases hx
  |some y=>rw[hl] at hx;cases hx;rw[Nat.zero_add];exact hc.cell hl)
 rwa [zV] at this
theorem Row.own {w:zA} {g cap base:Nat} {l:List Nat} (h:Row w g cap l) (hb:base<=g):w.ownsRow base 3 1 (.slice (some ⟨g,0,none⟩) l.length cap) l.length (l.map I):=by
 obtain⟨cur,hg,h1,h2,h3,h4⟩:=h;exact⟨by simp,.inr ⟨g,cap,cur,rfl,hb,hg,h1,h2,by omega,by rw[Nat.mul_one];exact h4⟩⟩
theorem Row.of_own {w:zA} {g cap base n:Nat} {l:List Nat} (h:w.ownsRow base 3 1 (.slice (some ⟨g,0,none⟩) n cap) n (l.map I)):Row w g cap l/\l.length=n:=by
 obtain⟨hl,h⟩:=h;have hn:l.length=n:=by simpa using hl
 rcases h with⟨h,_⟩|⟨g',cap',cur,e,hb,hg,h1,h2,h3,h4⟩
 ·cases h
 ·cases e
  exact⟨⟨cur,hg,by omega,h2,by omega,by rw[hn];simpa using h4⟩,hn⟩
theorem zau (w:zA) {b b':Nat} (o o':Nat) (u:Value) (h:b≠b'):(w.setCell ⟨b',o',none⟩ u).cell? ⟨b,o,none⟩=w.cell? ⟨b,o,none⟩:=
 World.cell?_of_block (a:=⟨b,o,none⟩) (Below.heap_setCell w ⟨b',o',none⟩ u b h)
theorem za9 {w:zA} {b o:Nat} {u v:Value} (h:w.cell? ⟨b,o,none⟩=some v):(w.setCell ⟨b,o,none⟩ u).cell? ⟨b,o,none⟩=some u:=
 World.cell?_setCell_same' _ _ _ (by rw[h];rfl)
theorem zob {w:zA} {b o:Nat} {v:Value} (h:w.cell? ⟨b,o,none⟩=some v) (x:Obj):(w.alloc x).cell? ⟨b,o,none⟩=some v:=by
 rw[World.cell?_of_block (a:=⟨b,o,none⟩) (Below.heap_alloc w x b (zbe h))];exact h
theorem zow {w:zA} {b o:Nat} {v:Value} (h:w.cell? ⟨b,o,none⟩=some v) (x:Obj) (hf:w.frozen? ⟨b,o,none⟩=false):(w.alloc x).frozen? ⟨b,o,none⟩=false:=by
 rw[World.frozen?_of_block (a:=⟨b,o,none⟩) (Below.heap_alloc w x b (zbe h))];exact hf
theorem getD_some {l:List Nat} {i:Nat} (h:i<l.length):l[i]? =some (l[i]?.getD 0):=by simp[h]
def zqm:Value->Nat
 | .slice _ n _=>n
 |_=>0
theorem zep (w:zA) (x:Value) (t:TypeId):∀(j:Nat) (u:Value),[x][j]? =some u->(w.alloc (.cells #[x] t)).cell? ((⟨w.heap.size,0,none⟩:Addr).add j)=some u:=by
 intro j u hj
 match j,hj with
 |0,hj=>simp at hj;subst hj;simp[Addr.add]
theorem zfn (x:Int):∀u∈[Value.int .i64 x],u.oneCell'=true:=by intro u hu;simp at hu;subst hu;rfl
theorem zi5 {P:Program} {f:FuncId} {args:Array Value} {w:zA} {v:Value} (h:zC P f args w λe w'=>e=.returned v/\w=w'):zC P f args w λe w'=>e=.returned v/\w'=w:=
 h.mono λ_ _ h=>⟨h.1,h.2.symm⟩
theorem Sl.at {w:zA} {p:Option Addr} {cap:Nat} {l:List Nat} {i:Nat} (h:Sl w (.slice p l.length cap) (l.map I)) (hi:i<l.length):
 ∃b off,p=some ⟨b,off,none⟩/\b<w.heap.size/\l.length<=cap/\w.cell? ⟨b,off+i,none⟩=some (I (l[i]?.getD 0)):=by
 obtain⟨p',cap',e,hcap,hc⟩:=h;simp only[zV] at e hcap;cases e;obtain⟨b,off,e,h'⟩:=hc i (I (l[i]?.getD 0)) (by simp[hi]);exact⟨b,off,e,zbe h',hcap,h'⟩
theorem zv6 {a b:Value} (h:a=b):Ending.returned a=Ending.returned b:=by rw[h]
abbrev qJ (f:FuncId) (a:Array Value) (w:zA) (v:Value):Prop:=zC zF f a w λe w'=>e=.returned v/\RowKit.Below w.heap.size w w'
abbrev qK (f:FuncId) (a:Array Value) (v:Value):Prop:=∀W:zA,Wd W->qJ f a W v
theorem qT {w W W':zA} (h:Hid (zB w.heap.size w W)) (k:zB W.heap.size W W'):Hid (zB w.heap.size w W'):=hid (h.out.trans (k.mono h.out.size))
abbrev qL (w W:zA):Prop:=zB w.heap.size w W
theorem zzX {α:Sort _} (a:α):∃x,x=a:=⟨_,rfl⟩
theorem zzM {P:Go.Program} {f:Go.FuncId} {a:Array Go.Value} {w:Go.World} {v:Go.Value} {R:Go.World->Prop} {Q:Go.Ending->Go.World->Prop} (h:Go.Calls P f a w λe w'=>e=.returned v/\R w') (k:∀w',R w'->Q (.returned v) w'):Go.Calls P f a w Q:=h.mono λ_ w' ⟨e,h⟩=>e▸k w' h
end Go.Proofs.YtfoodcpnnmonhaaGreatDoor
namespace Go.Proofs.YtfoodcpnnmonhaaGreatDoor
open Go.RowKit Lib Str Limb
theorem zjr (v:Value) (l:List Nat) (w:zA) (h:Sl w v (l.map I)) (hl:l.length<=3000):
 zC zF 180 #[v] w λe w'=>e=.returned (zql v (zat l).length)/\w=w':=by
 rcases h.cases with⟨h0,p,cap,rfl⟩|⟨h0,b,off,cap,rfl,hcap,hb,hc⟩
 ·have:l=[]:=by simpa using h0
  subst this;go_enter Tryz.func180,Tryz.ntmps180;go_wp2;go_loop [0] (λs=>s=.slice p 0 cap) (λ_=>0)
  case atStart=>rfl
  case round=>
   subst hrel;go_wp2;go_ret;exact⟨rfl,rfl⟩
 ·rw[zV] at hcap⊢
  have HC:=hid hc;clear hc h;go_enter Tryz.func180,Tryz.ntmps180;go_wp2;go_loop [0] (λs=>∃k:Nat,k<=l.length/\s=.slice (some ⟨b,off,none⟩) k cap/\Hid (zat (l.take k)=zat l)) (λs=>zqm s)
  case atStart=>exact⟨l.length,zN _,rfl,by show zat (l.take l.length)=_;rw[List.take_length]⟩
  case round=>
   obtain⟨k,hk,rfl,ht⟩:=hrel;rcases Nat.eq_zero_or_pos k with rfl|hp
   ·have e:(zat l).length=0:=by rw[<-ht.out];simp[zou]
    have E:=hid e;clear e;go_wp2;go_ret;exact⟨by rw[E.out];rfl,rfl⟩
   ·obtain⟨m,rfl⟩:∃m,k=m+1:=⟨k-1,by omega⟩
    have hm:m<l.length:=by omega
    have hx:l[m]? =some l[m]:=by simp[hm]
    have hcell:=HC.out m (I l[m]) (by simp[hm]);have hsn:zat (l.take (m+1))=zat (l.take m++[l[m]]):=by rw[List.take_succ_eq_append_getElem hm]
    by_cases hz:l[m]=0
    ·rw[hz] at hcell hsn
     have HS:Hid (zat (l.take m)=zat l):=by rw[<-ht.out,hsn,zew];rfl
     clear hsn hx hz ht;go_wp2;go_round
     case rel=>exact⟨m,by omega,rfl,HS⟩
     case measure=>simp[zqm]
    ·have HS:Hid ((zat l).length=m+1):=by
      rw[<-ht.out,hsn,zhs _ hz];show(l.take m++[l[m]]).length=m+1;simp;omega
     have hz':(((l[m]:Nat):Int)==0)=false:=by rw[beq_eq_false_iff_ne];omega
     clear hsn hx ht;go_wp2;go_ret;exact⟨by rw[HS.out];rfl,rfl⟩
theorem zi6 (p:Option Addr) (n cap:Nat) (l:List Nat) (w:zA) (h:Sl w (.slice p n cap) (l.map I)) (hl:l.length<=3000):
 zC zF 180 #[.slice p n cap] w λe w'=>e=.returned (.slice p (zat l).length cap)/\w=w':=zjr _ l w h hl
theorem zfh (v:Value) (l:List Nat) (i:Nat) (w:zA) (h:Sl w v (l.map I)) (hl:l.length<=3000):
 zC zF 203 #[v,I i] w λe w'=>e=.returned (I (l[i]?.getD 0))/\w=w':=by
 by_cases hi:i<l.length
 ·rcases h.cases with⟨h0,p,cap,rfl⟩|⟨h0,b,off,cap,rfl,hcap,hb,hc⟩
  ·have:l=[]:=by simpa using h0
   subst this;simp at hi
  ·have hcell:=hc i (I (l[i]?.getD 0)) (by simp[hi])
   clear hc h;rw[zV];generalize l[i]?.getD 0=x at*
   go_enter Tryz.func203,Tryz.ntmps203;go_wp2;go_ret;exact⟨rfl,rfl⟩
 ·have:l[i]?.getD 0=0:=by rw[List.getElem?_eq_none (by omega)];rfl
  rw[this];obtain⟨p,cap,rfl,hcap,_⟩:=h;rw[zV];go_enter Tryz.func203,Tryz.ntmps203;go_wp2;go_ret;exact⟨rfl,rfl⟩
def B9:Nat:=1000000000
theorem zdv:(Tryz.prog.info? 3).map (λi=>(i.zero,i.size,i.bytes))=some (some (.int .i64 0),1,8):=by kernel_rfl
def zht (w:zA) (l:List Nat) (e:Ending) (w':zA):Prop:=
 ∃v,e=.returned v/\w'.ownsRow w.heap.size 3 1 v l.length (l.map I)/\zB w.heap.size w w'
theorem zeq {w:zA} {base k:Nat} {v:Value} {o:List Nat} (h:w.ownsRow base 3 1 v k (o.map I)) (hk:o.length=k):
 w.ownsRow base 3 1 (zql v (zat o).length) (zat o).length ((zat o).map I):=by
 have ht:=zkn o;obtain⟨hl,h⟩:=h;refine⟨by simp,?_⟩;rcases h with⟨rfl,rfl⟩|⟨g,cap,cur,rfl,hb,hg,hn,hm,hs,e⟩
 ·have:=List.length_eq_zero_iff.1 hk
  subst this;exact .inl ⟨rfl,rfl⟩
 ·refine .inr ⟨g,cap,cur,rfl,hb,hg,by omega,hm,hs,?_⟩
  conv=>rhs;rw[zjo]
  rw[List.map_take,<-e,List.take_take];congr 1;omega
theorem zym (x y c:Nat) (hx:x<B9) (hy:y<B9) (hc:c<=1) (w:zA):
 zC zF 132 #[I x,I y,I c] w λe w'=>e=.returned (.tuple #[I (za6 B9 x y c).1,I (za6 B9 x y c).2])/\w=w':=by
 unfold B9 at*
 go_enter Tryz.func132,Tryz.ntmps132;go_wp2;go_ret2;exact⟨by simp[za6],rfl⟩
theorem zv7 (x y c:Nat) (hx:x<B9) (hy:y<B9) (hc:c<=1) (w:zA):
 zC zF 133 #[I x,I y,I c] w λe w'=>e=.returned (.tuple #[I (za1 B9 x y c).1,I (za1 B9 x y c).2])/\w=w':=by
 unfold B9 at*
 by_cases h:y+c<=x
 ·have h1:(0:Int)<=(x:Int)-y-c:=by omega
  have e:za1 1000000000 x y c=(x-y-c,0):=by unfold za1;rw[if_pos h]
  have e2:((x-y-c:Nat):Int)=(x:Int)-y-c:=by omega
  rw[e];have E2:=hid e2;clear e2 e;go_enter Tryz.func133,Tryz.ntmps133;go_wp2;go_ret2;exact⟨by show Ending.returned (.tuple #[.int .i64 _,.int .i64 _])=Ending.returned (.tuple #[.int .i64 _,.int .i64 _]);rw[E2.out];rfl,rfl⟩
 ·have h1:(x:Int)-y-c<0:=by omega
  have e:za1 1000000000 x y c=(x+1000000000-y-c,1):=by unfold za1;rw[if_neg h]
  have e2:((x+1000000000-y-c:Nat):Int)=(x:Int)-y-c+1000000000:=by omega
  rw[e];have E2:=hid e2;clear e2 e;go_enter Tryz.func133,Tryz.ntmps133;go_wp2;go_ret2;exact⟨by show Ending.returned (.tuple #[.int .i64 _,.int .i64 _])=Ending.returned (.tuple #[.int .i64 _,.int .i64 _]);rw[E2.out];rfl,rfl⟩
theorem zqs (va vb:Value) (a b:List Nat) (w:zA) (ha:Sl w va (a.map I)) (hb:Sl w vb (b.map I)) (sa:zal B9 a) (sb:zal B9 b) (la:a.length<=1000) (lb:b.length<=1000):
 zC zF 131 #[va,vb,.func (.func 132) #[] #[]] w (zht w ((zat (zaq (za6 B9) a b (max a.length b.length+1)).1))):=by
 obtain⟨i0,hi,hz0,hz1,hz2⟩:=info_parts zdv;have ha':=ha;have hb':=hb;obtain⟨pa,ca,rfl,hca,hcella⟩:=ha;obtain⟨pb,cb,rfl,hcb,hcellb⟩:=hb;have HA:=hid ha';clear ha' hcella hca;have HB:=hid hb';clear hb' hcellb hcb;have SA:=hid sa;clear sa;have SB:=hid sb;clear sb;simp only[zV] at*
 obtain⟨M,hM⟩:=zzX (max a.length b.length);have HM:=hid hM;have hmax:max (a.length:Int) (b.length:Int)=(M:Int):=by omega
 have hM2:M<=1000:=by omega
 rw[<-hM];clear hM;go_enter Tryz.func131,Tryz.ntmps131;go_wp2;go_loopw [7,8,18] (λv c i wr=>∃k:Nat,k<=M+1/\i=.int .i64 k/\c=I (zaq (za6 B9) a b k).2/\wr.ownsRow w.heap.size 3 1 v k ((zaq (za6 B9) a b k).1.map I)/\zB w.heap.size w wr)
  (λ_ _ i _=>M+1-(zL i).toNat)
 case atStart=>exact⟨0,zR _,rfl,rfl,World.ownsRow_nil _ _ _ _,zM _ _⟩
 case round=>
  obtain⟨k,hk,rfl,rfl,hown,hB⟩:=hrel;clear hmax;by_cases hlt:k<M+1
  ·obtain⟨p1,p2,p3⟩:=zna (B:=B9) (by decide) SA.out SB.out k
   have hx:=zaj SA.out (by decide) k;have hy:=zaj SB.out (by decide) k;have hst:zaq (za6 B9) a b (k+1)=((zaq (za6 B9) a b k).1++[(za6 B9 (a[k]?.getD 0) (b[k]?.getD 0) (zaq (za6 B9) a b k).2).1],(za6 B9 (a[k]?.getD 0) (b[k]?.getD 0) (zaq (za6 B9) a b k).2).2):=rfl;have HST:=hid hst;clear hst p1 p3;generalize (zaq (za6 B9) a b k).1=o at*
   generalize (zaq (za6 B9) a b k).2=c at*
   have HW:=HA.out.below hB;go_wp21;refine(zfh _ a k wr (HA.out.below hB) (by omega)).mono ?_;rintro e w1 ⟨rfl,rfl⟩;go_wp21;refine(zfh _ b k wr (HB.out.below hB) (by omega)).mono ?_;rintro e w1 ⟨rfl,rfl⟩;go_wp21;refine(zym (a[k]?.getD 0) (b[k]?.getD 0) c hx hy p2 wr).mono ?_;rintro e w1 ⟨rfl,rfl⟩;go_wp2_with (at_builtin;refine wpList_append_own _ rfl _ _ 39 rfl w.heap.size 3 i0 (.int .i64 0) 1 8 Tryz.underlying39 hi hz0 hz1 hz2 rfl (by decide) _ _ _ rfl (hown.alloc _) ⟨wr.heap.size,0,none⟩ 1 1 [I (za6 B9 (a[k]?.getD 0) (b[k]?.getD 0) c).1] rfl rfl (zep _ _ _) (zfn _) (by unfold maxLen;omega) (by omega) (by have:=hB.size;simp;omega) ?_);intro v' w1 hown' hgrow _;have hB1:qL w w1:=(hB.alloc hB.size _).grown hgrow (by have:=hB.size;simp;omega) (λq e=>(hown.lt q e).1);clear hgrow hB hown;go_wp2;go_roundw
   case rel=>exact⟨k+1,by omega,by go_num,by rw[HST.out],by rw[HST.out];simpa using hown',hB1⟩
   case measure=>simp[zL];omega
  ·have hk':k=M+1:=by omega
   have hl:(zaq (za6 B9) a b k).1.length=k:=zdk _ _ _ _;have HK:=hid hk';clear hk';obtain⟨o,ho⟩:=zzX ((zaq (za6 B9) a b k).1);rw[<-ho] at hown hl;have HO:=hid ho;clear ho;have HL:=hid hl;clear hl;go_wp21;refine(zjr _ o wr (Sl.of_own hown) (by rw[HL.out];omega)).mono ?_;rintro e w1 ⟨rfl,rfl⟩;go_wp21;go_ret;rw[<-HK.out,<-HO.out];exact⟨_,rfl,zeq hown HL.out,hB⟩
theorem zpr (va vb:Value) (a b:List Nat) (w:zA) (ha:Sl w va (a.map I)) (hb:Sl w vb (b.map I)) (sa:zal B9 a) (sb:zal B9 b) (la:a.length<=1000) (lb:b.length<=1000):
 zC zF 131 #[va,vb,.func (.func 133) #[] #[]] w (zht w ((zat (zaq (za1 B9) a b (max a.length b.length+1)).1))):=by
 obtain⟨i0,hi,hz0,hz1,hz2⟩:=info_parts zdv;have ha':=ha;have hb':=hb;obtain⟨pa,ca,rfl,hca,hcella⟩:=ha;obtain⟨pb,cb,rfl,hcb,hcellb⟩:=hb;have HA:=hid ha';clear ha' hcella hca;have HB:=hid hb';clear hb' hcellb hcb;have SA:=hid sa;clear sa;have SB:=hid sb;clear sb;simp only[zV] at*
 obtain⟨M,hM⟩:=zzX (max a.length b.length);have HM:=hid hM;have hmax:max (a.length:Int) (b.length:Int)=(M:Int):=by omega
 have hM2:M<=1000:=by omega
 rw[<-hM];clear hM;go_enter Tryz.func131,Tryz.ntmps131;go_wp2;go_loopw [7,8,18] (λv c i wr=>∃k:Nat,k<=M+1/\i=.int .i64 k/\c=I (zaq (za1 B9) a b k).2/\wr.ownsRow w.heap.size 3 1 v k ((zaq (za1 B9) a b k).1.map I)/\zB w.heap.size w wr)
  (λ_ _ i _=>M+1-(zL i).toNat)
 case atStart=>exact⟨0,zR _,rfl,rfl,World.ownsRow_nil _ _ _ _,zM _ _⟩
 case round=>
  obtain⟨k,hk,rfl,rfl,hown,hB⟩:=hrel;clear hmax;by_cases hlt:k<M+1
  ·obtain⟨p1,p2,p3⟩:=zlo (B:=B9) (by decide) SA.out SB.out k
   have hx:=zaj SA.out (by decide) k;have hy:=zaj SB.out (by decide) k;have hst:zaq (za1 B9) a b (k+1)=((zaq (za1 B9) a b k).1++[(za1 B9 (a[k]?.getD 0) (b[k]?.getD 0) (zaq (za1 B9) a b k).2).1],(za1 B9 (a[k]?.getD 0) (b[k]?.getD 0) (zaq (za1 B9) a b k).2).2):=rfl;have HST:=hid hst;clear hst p1 p3;generalize (zaq (za1 B9) a b k).1=o at*
   generalize (zaq (za1 B9) a b k).2=c at*
   have HW:=HA.out.below hB;go_wp21;refine(zfh _ a k wr (HA.out.below hB) (by omega)).mono ?_;rintro e w1 ⟨rfl,rfl⟩;go_wp21;refine(zfh _ b k wr (HB.out.below hB) (by omega)).mono ?_;rintro e w1 ⟨rfl,rfl⟩;go_wp21;refine(zv7 (a[k]?.getD 0) (b[k]?.getD 0) c hx hy p2 wr).mono ?_;rintro e w1 ⟨rfl,rfl⟩;go_wp2_with (at_builtin;refine wpList_append_own _ rfl _ _ 39 rfl w.heap.size 3 i0 (.int .i64 0) 1 8 Tryz.underlying39 hi hz0 hz1 hz2 rfl (by decide) _ _ _ rfl (hown.alloc _) ⟨wr.heap.size,0,none⟩ 1 1 [I (za1 B9 (a[k]?.getD 0) (b[k]?.getD 0) c).1] rfl rfl (zep _ _ _) (zfn _) (by unfold maxLen;omega) (by omega) (by have:=hB.size;simp;omega) ?_);intro v' w1 hown' hgrow _;have hB1:qL w w1:=(hB.alloc hB.size _).grown hgrow (by have:=hB.size;simp;omega) (λq e=>(hown.lt q e).1);clear hgrow hB hown;go_wp2;go_roundw
   case rel=>exact⟨k+1,by omega,by go_num,by rw[HST.out],by rw[HST.out];simpa using hown',hB1⟩
   case measure=>simp[zL];omega
  ·have hk':k=M+1:=by omega
   have hl:(zaq (za1 B9) a b k).1.length=k:=zdk _ _ _ _;have HK:=hid hk';clear hk';obtain⟨o,ho⟩:=zzX ((zaq (za1 B9) a b k).1);rw[<-ho] at hown hl;have HO:=hid ho;clear ho;have HL:=hid hl;clear hl;go_wp21;refine(zjr _ o wr (Sl.of_own hown) (by rw[HL.out];omega)).mono ?_;rintro e w1 ⟨rfl,rfl⟩;go_wp21;go_ret;rw[<-HK.out,<-HO.out];exact⟨_,rfl,zeq hown HL.out,hB⟩
theorem zox (va vb:Value) (a b:List Nat) (w:zA) (ha:Sl w va (a.map I)) (hb:Sl w vb (b.map I)) (sa:zal B9 a) (sb:zal B9 b) (la:a.length<=1000) (lb:b.length<=1000):
 zC zF 174 #[va,vb] w (zht w (zat (zbp B9 a b a.length))):=by
 obtain⟨i0,hi,hz0,hz1,hz2⟩:=info_parts zdv;have ha':=ha;have hb':=hb;obtain⟨pa,ca,rfl,hca,hcella⟩:=ha;obtain⟨pb,cb,rfl,hcb,hcellb⟩:=hb;have HA:=hid ha';clear ha' hcella hca;have HB:=hid hb';clear hb' hcellb hcb;have SA:=hid sa;clear sa;have SB:=hid sb;clear sb;simp only[zV] at*
 go_enter Tryz.func174,Tryz.ntmps174;go_wp2_with (at_make;refine wpList_make_full _ rfl _ _ 39 rfl w.heap.size 3 i0 (.int .i64 0) 1 Tryz.underlying39 hi hz0 hz1 .i64 .i64 _ _ (a.length+b.length+1) rfl rfl (by omega) (by omega) (by rw[hz2];omega) (by unfold maxLen;omega) (zN _) ?_);intro w0 hown hgrow;rw[toList_madeCells_one,<-show(List.replicate (a.length+b.length+1) 0).map I=List.replicate (a.length+b.length+1) (.int .i64 0) by simp] at hown;obtain⟨hrow, -⟩:=Row.of_own hown;have hB0:qL w w0:=(zM _ _).grown hgrow (zN _) (λ_ e=>by cases e);clear hown hgrow;obtain⟨N,hN⟩:=zzX (a.length+b.length+1);have hN2:(a.length:Int)+b.length+1=N:=by omega
 rw[<-hN] at hrow⊢;have HN:=hid hN;clear hN;obtain⟨g,hg⟩:=zzX w.heap.size;rw[<-hg] at hrow⊢;have HG:=hid hg;clear hg;clear hN2;go_wp2;go_loopw [20] (λi wr=>∃k:Nat,k<=a.length/\i=.int .i64 k/\Row wr g N (zbp B9 a b k)/\zB w.heap.size w wr)
  (λi _=>a.length-(zL i).toNat)
 case atStart=>exact⟨0,zR _,rfl,by rw[zbp,<-HN.out];exact hrow,hB0⟩
 case round=>
  clear hrow hB0;obtain⟨i,hk,rfl,hrow,hB⟩:=hrel;by_cases hlt:i<a.length
  ·obtain⟨ba,offa,rfl,hba,hcapa,hcx⟩:=(HA.out.below hB).at hlt
   have hxs:=zaj SA.out (by decide) i;obtain⟨ts1,ts2, -⟩:=zdf (B:=B9) (by decide) SA.out SB.out i hk;have hst:zbp B9 a b (i+1)=(zay B9 (a[i]?.getD 0) b i (zbp B9 a b i) (b.length+1)).1:=rfl;rw[<-HN.out] at ts1;have HST:=hid hst;clear hst;generalize zbp B9 a b i=L at*
   generalize a[i]?.getD 0=x at*
   have TS1:=hid ts1;clear ts1;have TS2:=hid ts2;clear ts2;have hx':x<1000000000:=hxs;clear hxs;go_wp2;obtain⟨wo,hwo⟩:=zzX (wr:zA);have HWO:=hid hwo;clear hwo;go_loopw [8,28] (λc j wr=>∃k:Nat,k<=b.length+1/\j=.int .i64 k/\c=I (zay B9 x b i L k).2/\Row wr g N (zay B9 x b i L k).1/\zB w.heap.size w wr)
    (λ_ j _=>b.length+1-(zL j).toNat)
   case atStart=>exact⟨0,zR _,rfl,rfl,hrow,hB⟩
   case round=>
    clear hrow hB hcx;obtain⟨k,hkk,rfl,rfl,hrow,hB⟩:=hrel;have HN3:N=a.length+b.length+1:=HN.out;by_cases hlk:k<b.length+1
    ·obtain⟨r1,r2,r3, -⟩:=zfw (B:=B9) (by decide) (show x<B9 from hx') SB.out i TS2.out k (by rw[TS1.out];omega)
     have hys:=zaj SB.out (by decide) k;have hst:zay B9 x b i L (k+1)=((zay B9 x b i L k).1.set (i+k) (((zay B9 x b i L k).1[i+k]?.getD 0+x*b[k]?.getD 0+(zay B9 x b i L k).2)%B9),((zay B9 x b i L k).1[i+k]?.getD 0+x*b[k]?.getD 0+(zay B9 x b i L k).2)/B9):=rfl;have HST2:=hid hst;clear hst;generalize zay B9 x b i L k=r at*
     obtain⟨l,c⟩:=r;dsimp only at*
     have hlen:i+k<l.length:=by rw[r1,TS1.out];omega
     have hcell:=hrow.cell (getD_some hlen);have hfz:=hrow.frozen (i+k);have hzs:=zaj r2 (by decide) (i+k);have hc':c<1000000000:=r3;have hz':l[i+k]?.getD 0<1000000000:=hzs;have hy':b[k]?.getD 0<1000000000:=hys;have hb2:i+k<N:=by omega
     have hiN:(0:Int)<=(i:Int)+k:=by omega
     have hiN2:(i:Int)+k<N:=by omega
     have hyq:=λW=>zfh (.slice pb b.length cb) b k W;have HYQ:=hid hyq;clear hyq;have HROW:=hid hrow;have HL:=hid hlen;clear r1 r2 r3 hzs hys hrow hlen HN3;generalize hzz:l[i+k]?.getD 0=z at*
     have HZZ:=hid hzz;clear hzz;go_wp2;have hp0:(0:Int)<=(x:Int)*(b[k]?.getD 0:Nat):=by rw[<-Int.natCast_mul];omega
     have hp1:(x:Int)*(b[k]?.getD 0:Nat)<=999999998000000001:=by
      have:=Nat.mul_le_mul (show x<=999999999 by omega) (show b[k]?.getD 0<=999999999 by omega);rw[<-Int.natCast_mul];omega
     generalize b[k]?.getD 0=y at*
     have e1:IntKind.i64.wrap ((x:Int)*y)=(x:Int)*y:=zI _ (by omega);have e2:IntKind.i64.wrap ((z:Int)+(x:Int)*y)=(z:Int)+(x:Int)*y:=zI _ (by omega);have e3:IntKind.i64.wrap ((z:Int)+(x:Int)*y+c)=(z:Int)+(x:Int)*y+c:=zI _ (by omega);have e4:IntKind.i64.wrap ((i:Int)+k)=(i:Int)+k:=zI _ (by omega);have e5:((i:Int)+k).toNat=i+k:=by omega
     go_quiet ((go_at_call 203;exact Calls.quiet_of_same (zi5 (HYQ.out _ ((HB.out.below (hB.trans (below_drewN (zM _ _) _)))) (by omega)))));clear e1 e2 e3 e4 e5;go_wp2;go_roundw
     case rel=>
      refine⟨k+1,by omega,by go_num,?_,?_,?_⟩
      ·rw[HST2.out];simp[B9]
      ·rw[HST2.out]
       have:=Row.set (w:=wr.drewN nq) (show Row (wr.drewN nq) g N l from HROW.out) (i+k) ((z+x*y+c)%B9);have e:I ((z+x*y+c)%B9)=.int .i64 (((z:Int)+x*y+c)%1000000000):=by simp[I,B9]
       rw[e] at this;exact this
      ·exact(below_drewN hB _).setCell (by rw[HG.out];exact zN _) _
     case measure=>simp[zL];omega
    ·obtain rfl:k=b.length+1:=by omega
     have HROW:=hid hrow;clear hrow;go_wp2;go_roundw
     case rel=>exact⟨i+1,by omega,by go_num,by rw[HST.out];exact HROW.out,hB⟩
     case measure=>simp[zL];omega
  ·obtain rfl:i=a.length:=by omega
   obtain⟨ts1,ts2, -⟩:=zdf (B:=B9) (by decide) SA.out SB.out a.length hk;rw[<-HN.out] at ts1;generalize zbp B9 a b a.length=L at*
   have TS1:=hid ts1;clear ts1;have hsl:=hrow.sl;rw[TS1.out] at hsl;have HSL:=hid hsl;clear hsl;have HROW:=hid hrow;clear hrow;go_wp21;refine(zjr _ L wr HSL.out (by rw[TS1.out,HN.out];omega)).mono ?_;rintro e w1 ⟨rfl,rfl⟩;go_wp21;go_ret;have:=zeq (HROW.out.own (base:=w.heap.size) (by rw[HG.out];exact zN _)) rfl;rw[TS1.out] at this;exact⟨_,rfl,this,hB⟩
end Go.Proofs.YtfoodcpnnmonhaaGreatDoor
namespace Go.Proofs.YtfoodcpnnmonhaaGreatDoor
open Go.RowKit Go.Shelf
attribute [local go_sem] Oper.semAt_some
def CellsKept (W W':zA):Prop:=∀(k:Nat) (cs:Array Value) (t:TypeId) (fz:Nat×Nat),W.heap[k]? =some (Obj.cells cs t fz)->W'.heap[k]? =some (Obj.cells cs t fz)
theorem CellsKept.cell {W W':zA} (h:CellsKept W W') {b o:Nat} {v:Value} (hc:W.cell? ⟨b,o,none⟩=some v):W'.cell? ⟨b,o,none⟩=some v:=by
 have hc':=hc;unfold World.cell? at hc
 cases hb:W.heap[b]? with
 |none=>rw[hb] at hc;cases hc
 |some x=>
  rw[hb] at hc;cases x<;>first|(cases hc;done)|skip;rw[<-hc'];exact World.cell?_of_block (a:=⟨b,o,none⟩) ((h _ _ _ _ hb).trans hb.symm)
theorem CellsKept.frozen {W W':zA} (h:CellsKept W W') {b o:Nat} {v:Value} (hc:W.cell? ⟨b,o,none⟩=some v) (hf:W.frozen? ⟨b,o,none⟩=false):W'.frozen? ⟨b,o,none⟩=false:=by
 have hc':=hc;unfold World.cell? at hc
 cases hb:W.heap[b]? with
 |none=>rw[hb] at hc;cases hc
 |some x=>
  rw[hb] at hc;cases x<;>first|(cases hc;done)|skip;rw[<-hf];exact World.frozen?_of_block (a:=⟨b,o,none⟩) ((h _ _ _ _ hb).trans hb.symm)
theorem CellsKept.sl {W W':zA} (h:CellsKept W W') {v:Value} {xs:List Value} (hs:Sl W v xs):Sl W' v xs:=by
 obtain⟨p,cap,e,hcap,hc⟩:=hs;exact⟨p,cap,e,hcap,λi x hx=>let ⟨b,off,ep,h'⟩:=hc i x hx;⟨b,off,ep,h.cell h'⟩⟩
theorem CellsKept.row {W W':zA} (h:CellsKept W W') {g cap:Nat} {l:List Nat} (hs:Row W g cap l):Row W' g cap l:=by
 obtain⟨cur,hg,hr⟩:=hs;exact⟨cur,h _ _ _ _ hg,hr⟩
theorem zen {W W':zA} {row:Option Nat} (hg:W.grownBy W' row) (hr:∀r,row=some r->∃o:Obj,W.heap[r]? =some o/\o.isCells=false):CellsKept W W':=by
 intro k cs t fz hk;rw[hg.block k (Array.getElem?_eq_some_iff.1 hk).1 (λe=>by
  obtain⟨o,ho,hc⟩:=hr k e.symm;rw[hk] at ho;cases ho;cases hc)]
 exact hk
theorem zv8 {β:Type} {I:β->zA->Prop} (h:∀s W W',CellsKept W W'->I s W->I s W'):Own I:=
 λs W W' _ hs hg hr=>h s W W' (zen hg hr) hs
theorem za0 {W W':zA} (h:qL W W'):KeepsOthers W W':=
 ⟨h.size,λk o hk _=>by rw[h.block k (Array.getElem?_eq_some_iff.1 hk).1];exact hk⟩
def upto {α:Type} (f:Nat->α) (k:Nat):List α:=(List.range k).map f
theorem zia {α:Type} (f:Nat->α) (k:Nat):upto f (k+1)=upto f k++[f k]:=by simp[upto,List.range_succ]
theorem zso {α:Type} (f:Nat->α) (k:Nat):(upto f k).length=k:=by simp[upto]
def At (len:Nat) (V:Nat->Int->Prop):Type:={p:Nat×Int // p.1<len/\V p.1 p.2}
theorem zyn (l Bs len cap:Nat) (p:Option Addr) (V:Nat->Int->Prop) (Rd:zA->Prop) (hlen:len<=3000)
 (hRd:∀W,Rd W->W.cell? ⟨Bs,0,none⟩=some (.slice p len cap)/\∀i,i<len->∃b off x,p=some ⟨b,off,none⟩/\V i x/\W.cell? ⟨b,off+i,none⟩=some (.int .i64 x))
 (J Jx:List (At len V)->zA->Prop)
 (hY:∀pre x W,J pre W->pre.length<len->YieldAt Fence.wide (2-1) zF l #[.int .i64 (x.1.1:Int),.int .i64 x.1.2] W λe W'=>
   (e=.returned (.bool true)/\J (pre++[x]) W'/\(Rd W->Rd W'))\/(e=.returned (.bool false)/\Jx (pre++[x]) W'))
 (W:zA) (hr:Rd W) (h0:J [] W):
 CallsIn Fence.wide 2 zF 259 #[.func (.yield l) #[] #[],.pointer (some ⟨Bs,0,none⟩)] W λe W'=>(∃v,e=.returned v)/\
  ((∃ys:List (At len V),ys.map (·.1.1)=upto (λk=>len-1-k) len/\J ys W')\/(∃pre:List (At len V),(∃k,k<=len/\pre.map (·.1.1)=upto (λk=>len-1-k) k)/\Jx pre W')):=by
 refine callsIn_of_wp Tryz.func259 rfl trivial ?_ rfl;simp only[Tryz.ntmps259,List.size_toArray,yA,List.length_nil,Nat.reduceAdd,Nat.reduceSub,Array.replicate_succ,Array.replicate_zero,List.push_toArray,List.append_toArray,List.nil_append,List.cons_append];have hb:=(hRd W hr).1;have HRd:=Lib.hid hRd;clear hRd;have HY:=Lib.hid hY;clear hY;gi_wp2;gi_loopw [3] (λi wr=>∃(k:Nat) (pre:List (At len V)),k<=len/\i=.int .i64 ((len:Int)-1-k)/\Hid (pre.map (·.1.1)=upto (λk=>len-1-k) k)/\Hid (J pre wr)/\Hid (Rd wr))
  (λi _=>(zL i+1).toNat)
 case atStart=>exact⟨0,[],zR _,by simp,rfl,h0,hr⟩
 case round=>
  clear hb;obtain⟨k,pre,hk,rfl,hp,hJ,hr'⟩:=hrel;have hpl:pre.length=k:=by have:=congrArg List.length hp.out;simpa [zso] using this
  by_cases hlt:k<len
  ·obtain⟨hbox,hcs⟩:=HRd.out wr hr'.out
   obtain⟨b,off,x,rfl,hV,hcell⟩:=hcs (len-1-k) (by omega);obtain⟨x0,hx1,hx2⟩:∃x0:At len V,x0.1.1=len-1-k/\x0.1.2=x:=⟨⟨(len-1-k,x),by show len-1-k<len;omega,hV⟩,rfl,rfl⟩;obtain⟨fn,tmps,assign,body,hy,hR⟩:=HY.out pre x0 wr hJ.out (by rw[hpl];exact hlt);clear hpl hcs hV;have hi2:(((len-1-k:Nat):Int))=(len:Int)-1-k:=by omega
   rw[hx1,hx2,hi2] at hy;have HX1:=Lib.hid hx1;clear hi2 hx1 hx2;gi_wp2;refine hR.mono ?_;rintro e W3 (⟨rfl,hJ3,hk3⟩|⟨rfl,hJx3⟩)
   ·have HJ3:=Lib.hid hJ3;clear hJ3
    have HK3:=Lib.hid hk3;clear hk3;gi_wp2;go_roundw
    case rel=>exact⟨k+1,_,by omega,by first|go_num|(simp;omega),by show List.map _ _=_;rw[List.map_append,hp.out,zia,<-HX1.out];rfl,HJ3.out,HK3.out hr'.out⟩
    case measure=>simp[zL];omega
   ·have HJx3:=Lib.hid hJx3;clear hJx3
    gi_wp2;refine bodyPost_ret (results_none rfl _ _ _) rfl ?_;exact⟨⟨_,rfl⟩,.inr ⟨_,⟨k+1,by omega,by rw[List.map_append,hp.out,zia,<-HX1.out];rfl⟩,HJx3.out⟩⟩
  ·obtain rfl:k=len:=by omega
   clear hpl;gi_wp2;go_end0;exact⟨⟨_,rfl⟩,.inl ⟨_,hp.out,hJ.out⟩⟩
theorem zhu (v:Value) (w:zA) (p:Option Addr) (n cap:Nat) (hv:v=.slice p n cap):
 zC zF 199 #[v] w λe w'=>e=.returned (.func (.func 259) #[] #[.pointer (some ⟨w.heap.size,0,none⟩)])/\w.alloc (.cells #[v] 39)=w':=by
 subst hv;go_enter Tryz.func199,Tryz.ntmps199;go_wp2;go_ret;exact⟨rfl,rfl⟩
theorem zun (Bs len cap:Nat) (p:Option Addr) (V:Nat->Int->Prop) (Rd:zA->Prop) (hlen:len<=3000)
 (hRd:∀W,Rd W->W.cell? ⟨Bs,0,none⟩=some (.slice p len cap)/\∀i,i<len->∃b off x,p=some ⟨b,off,none⟩/\V i x/\W.cell? ⟨b,off+i,none⟩=some (.int .i64 x))
 (w:zA) (hw:∀W,qL w W->Rd W):
 SeqStopsK Fence.wide (3-1) zF 259 #[.pointer (some ⟨Bs,0,none⟩)] (λx:At len V=> #[Value.int .i64 (x.1.1:Int),Value.int .i64 x.1.2]) (λW W'=>Rd W->Rd W')
  (λys=>ys.map (·.1.1)=upto (λk=>len-1-k) len) (λpre=>∃k,k<=len/\pre.map (·.1.1)=upto (λk=>len-1-k) k) len w:=
 λl J Jx W hW _ _ hY h0=>zyn l Bs len cap p V Rd hlen hRd J Jx hY W (hw W hW) h0
theorem znd {g:Operand} {ps:Array Tmp} {assign body:Code} {Q:Exit->Act->zA->Prop} {a:Act} {w:zA}
 (w0:zA) (hB:qL w0 w) (Bs len cap:Nat) (p:Option Addr) (V:Nat->Int->Prop) (Rd:zA->Prop) (hlen:len<=3000)
 (hRd:∀W,Rd W->W.cell? ⟨Bs,0,none⟩=some (.slice p len cap)/\∀i,i<len->∃b off x,p=some ⟨b,off,none⟩/\V i x/\W.cell? ⟨b,off+i,none⟩=some (.int .i64 x))
 (hw:∀W,qL w W->Rd W) (hRk:∀W W',CellsKept W W'->Rd W->Rd W')
 (hg:a.eval g=.func (.func 259) #[] #[.pointer (some ⟨Bs,0,none⟩)]) (hps:ps.size=2)
 (I:List (At len V)->zA->Prop) (Ix:Code->List (At len V)->zA->Prop) (hI:∀s W W',CellsKept W W'->I s W->I s W') (hIx:∀c s W W',CellsKept W W'->Ix c s W->Ix c s W') (h0:I [] w)
 (a₁:At len V->Act)
 (hassign:∀(l:Nat) (x:At len V) (W:zA) (K:Act->zA->Prop),K (a₁ x) W->
   assign.wpIn (Fence.wide.inRound l) 1 zF (Exit.then K (λ_ _ _=>False)) {tmps:=(ps.zip #[Value.int .i64 (x.1.1:Int),Value.int .i64 x.1.2]).foldl (λt (p,v)=>t.setIfInBounds p v) a.tmps,defers:=[]} W)
 (hbody:∀(l:Nat) (pre:List (At len V)) (x:At len V) (W:zA),I pre W->qL w0 W->pre.length<len->
   body.wpIn (Fence.wide.inRound l) 1 zF (ownPostG w.heap.size (λW W'=>Rd W->Rd W') (λs W=>I s W/\zB w0.heap.size w0 W) (λc s W=>Ix c s W/\zB w0.heap.size w0 W) (pre++[x]) W) (a₁ x) W)
 (hdone:∀(D:Nat) (xs:List (At len V)) (W:zA),w.heap.size<=D->xs.map (·.1.1)=upto (λk=>len-1-k) len->I xs W->qL w0 W->W.heap[D]? =some (.deferred (some []))->
   Q .normal {a with defers:={target:=.collected D,args:= #[]}::a.defers} W)
 (hstop:∀(D:Nat) (c:Code) (pre:List (At len V)) (W:zA),w.heap.size<=D->(∃k,k<=len/\pre.map (·.1.1)=upto (λk=>len-1-k) k)->Ix c pre W->qL w0 W->W.heap[D]? =some (.deferred (some []))->
   c.wpIn Fence.wide 3 zF Q {a with defers:={target:=.collected D,args:= #[]}::a.defers} W):
 (Code.rangeFunc g ps assign body).wpIn Fence.wide 3 zF Q a w:=
 wpIn_rangeFunc_ownG rfl (by omega) hg trivial (enters_of Tryz.func259 (by kernel_rfl) rfl)
  (zun Bs len cap p V Rd hlen hRd w hw) (λh k x=>k (h x))
  (λW l o o' _ h1 h2 _ hr=>hRk W _ (zen (grownBy_putObj' W l o') (λr e=>by cases e;exact⟨o,h1,h2⟩)) hr)
  (zM _ _) (λ_=>hps.symm)
  (λs W=>I s W/\zB w0.heap.size w0 W) (λc s W=>Ix c s W/\zB w0.heap.size w0 W)
  (OwnFrom.and ((zv8 hI).from _) (ownFrom_below (zN _) hB.size)) (λc=>OwnFrom.and ((zv8 (hIx c)).from _) (ownFrom_below (zN _) hB.size))
  ⟨h0,hB⟩ a₁ hassign (λl pre x W h hp=>hbody l pre x W h.1 h.2 hp) (λD xs W hD hs h hK=>hdone D xs W hD hs h.1 h.2 hK) (λD c pre W hD hs h hK=>hstop D c pre W hD hs h.1 h.2 hK)
theorem zby {w0 W:zA} {D:Nat} (h:qL w0 W) (hD:w0.heap.size<=D) (hK:W.heap[D]? =some (.deferred (some []))):qL w0 (W.putObj D (.deferred none)):=
 h.trans (belowK_b (w:=w0) (zN _) W D _ _ hD hK rfl rfl)
theorem zbk {W:zA} {D:Nat} (hK:W.heap[D]? =some (.deferred (some []))):CellsKept W (W.putObj D (.deferred none)):=
 zen (grownBy_putObj' W D _) (λr e=>by cases e;exact⟨_,hK,rfl⟩)
def RdSl (Bs:Nat) (v:Value) (l:List Nat) (W:zA):Prop:=W.cell? ⟨Bs,0,none⟩=some v/\Sl W v (l.map I)
theorem RdSl.read {Bs cap:Nat} {p:Option Addr} {l:List Nat} {W:zA} (h:RdSl Bs (.slice p l.length cap) l W):
 W.cell? ⟨Bs,0,none⟩=some (.slice p l.length cap)/\∀i,i<l.length->∃b off x,p=some ⟨b,off,none⟩/\x=((l[i]?.getD 0:Nat):Int)/\W.cell? ⟨b,off+i,none⟩=some (.int .i64 x):=
 ⟨h.1,λ_ hi=>let ⟨b,off,e,_,_,hc⟩:=h.2.at hi;⟨b,off,_,e,rfl,hc⟩⟩
theorem zqt {len i:Nat} (h:i<len):i∈upto (λk=>len-1-k) len:=by
 simp only[upto,List.mem_map,List.mem_range];exact⟨len-1-i,by omega,by omega⟩
end Go.Proofs.YtfoodcpnnmonhaaGreatDoor
namespace Go.Proofs.YtfoodcpnnmonhaaGreatDoor
open Go
variable {P:Program} {ops:Array Oper}
def zhj (ops:Array Oper):Bool:=ops.all λo=>match o.op with| .defer _=>false|_=>true
theorem zv9 {l n:Nat} {row:String} {args:Array Value} {w:zA} {R:Value->zA->Prop} (h:Rows P row args w R):RowsIn (Fence.wide.inRound l) n P row args w R:=by
 intro c cs _;obtain⟨v,w',hR,hs⟩:=h c cs;exact⟨v,w',hR,stepsIn_wide.2 hs⟩
theorem zoc {l n:Nat} (hnd:zhj ops=true) {i:Nat} {K K':Act->zA->Prop} {Q Q':Exit->Act->zA->Prop} (hQ:∀e a w,e≠ .normal->¬Q e a w) {a:Act} {w:zA}
 (hK:∀a w,K a w->K' a w) (h:wpOp P ops Q i K a w):wpOpIn (Fence.wide.inRound l) n P ops Q' i K' a w:=by
 unfold wpOp at h;unfold wpOpIn
 cases ho:ops[i]? with
 |none=>simp only[ho] at h⊢;exact hK _ _ h
 |some o=>
  simp only[ho] at h⊢;by_cases hw:Region.wanted o (yielded ops a.tmps)=true
  ·simp only[hw,if_true] at h⊢
   have hlet:¬LetsOut Q:=λ⟨a',w',hq⟩=>hQ _ _ _ (by intro e;cases e) hq;rcases h with h|⟨_,h⟩
   ·refine⟨λ_ _=>trivial,?_⟩
    have hd:∀c,o.op≠ .defer c:=by
     intro c e;have:=Array.all_eq_true'.1 hnd o (Array.mem_of_getElem? ho);rw[e] at this;cases this
    rw[Oper.semAt_eq _ _ _ hd];unfold Oper.wp at h;generalize (execOp a.eval o).run P w=r at*
    cases r with
    |ok x w'=>
     cases x<;>simp only[Oper.upon] at h<;>simp only[Oper.uponIn]
     all_goals first
      |exact hK _ _ h
      |(refine⟨(by intro h';cases h'),CallsIn.inRound l (callsIn_wide.2 (h.mono ?_))⟩
        intro e w'' he
        cases e with
        |returned v=>exact hK _ _ he
        |panicked c=>exact absurd he (hQ _ _ _ (by intro e;cases e))
        |outgrown=>exact absurd he hlet)
      |(refine⟨(by intro h';cases h'),zv9 (h.mono ?_)⟩
        intro v w'' he;exact hK _ _ he)
    |halt x w'=>
     cases x<;>simp only[Oper.upon] at h;exact absurd h (hQ _ _ _ (by intro e;cases e))
   ·exact absurd h hlet
  ·simp only[hw,Bool.false_eq_true,if_false] at h⊢
   exact⟨λ_ _=>trivial,hK _ _ h⟩
theorem zd4 {l n:Nat} (hnd:zhj ops=true) {md:Region.Mode} {Q Q':Exit->Act->zA->Prop} (hQ:∀e a w,e≠ .normal->¬Q e a w) (hN:∀a w,Q .normal a w->Q' .normal a w):
 ∀(fuel:Nat) (listed:Array Bool) (a:Act) (w:zA),wpAny P md ops Q fuel listed a w->wpAnyIn (Fence.wide.inRound l) n P md ops Q' fuel listed a w
 |0,_,_,_,h=>⟨h.1,hN _ _ h.2⟩
 |fuel+1,_,_,_,h=>⟨λh0=>hN _ _ (h.1 h0),λi hi=>zoc hnd hQ (λa w h=>zd4 hnd hQ hN fuel _ a w h) (h.2 i hi)⟩
theorem zis {l m id:Nat} {Q:Exit->Act->zA->Prop} {a:Act} {w:zA} {ol:List Oper} (n:Nat) (hm:P.follows .mixedOrders=true) (hB:Region.lexTailB .any ol.toArray n=true) (hnd:zhj ol.toArray=true)
 (h:wpStill P ol.toArray {w with drawn:=w.drawn+1} (λa'=>wpList P ol.toArray (λe a w=>e=.normal/\Q .normal a w) (ol.drop n) a' {w with drawn:=w.drawn+1}) (ol.take n) a):(Code.region id ol.toArray true).wpIn (Fence.wide.inRound l) m P Q a w:=by
 simp only[Region.lexTailB,Bool.and_eq_true,decide_eq_true_eq] at hB;obtain⟨⟨⟨⟨hsel,hn⟩,hs⟩,hc⟩,hlex⟩:=hB;have hn':n<ol.length:=by simpa using hn
 have htl:(ol.take n).length=n:=by simp;omega
 have hdl:(ol.drop n).length=ol.toArray.size-n:=by simp
 have inv0:HeadInv .any ol.toArray n (Array.replicate ol.toArray.size false):=
  ⟨by simp,λj oj _ hl=>(by rw[getD_replicate_false] at hl;cases hl),λt _ ht=>getD_in (by simpa using ht) (getD_replicate_false _ _)⟩
 have H:=wpAnyL_lex (md:=.any) (g:=ol.toArray.size-n) hsel hs hc hn (ol.take n) 0 _ a (λj hj=>by
  have hj':j<n:=by rw[htl] at hj;exact hj
  simp[hj']) (by simpa using htl) inv0 (by rw[htl];exact hlex) h
 refine wpIn_region_any hm (zd4 hnd (Q:=λe a w=>e=.normal/\Q .normal a w) (λe a w h h'=>h h'.1) (λa w h=>h.2) _ _ _ _ ?_);have:=wpAny_of_head (Q':=λe a w=>e=.normal/\Q .normal a w) (g:=ol.toArray.size-n) (λlisted a' hL=>by
  have:=wpAny_of_seq (md:=.any) (Q':=λe a w=>e=.normal/\Q .normal a w) (ol.drop n) n listed a' {w with drawn:=w.drawn+1} (λj=>by simp[List.getElem?_drop]) (by rw[hdl];exact hL.1) hL.2;rwa [hdl] at this) _ _ _ H
 rw[htl,show n+(ol.toArray.size-n)=ol.toArray.size by omega] at this;exact this
def zex (P:Program) (ops:Array Oper) (S:zA->Prop) (K:Act->Prop):List Oper->Act->Prop
 |[],a=>K a
 |o::rest,a=>∃v,YieldsIf P ops S o v a/\zex P ops S K rest (a.put o.dst v)
theorem zhv {S:zA->Prop} {K K':Act->Prop} (hK:∀a,K a->K' a):∀(l:List Oper) (a:Act),zex P ops S K l a->zex P ops S K' l a
 |[],_,h=>hK _ h
 |_::l,_,⟨v,hy,h⟩=>⟨v,hy,zhv hK l _ h⟩
theorem ze6 {S:zA->Prop} {K:Act->Prop} {a:Act} (h:K a):zex P ops S K [] a:=h
theorem zer {S:zA->Prop} {K:Act->Prop} {a:Act} {o:Oper} {l:List Oper} {v:Value} (hw:Region.wanted o (yielded ops a.tmps)=true) (hy:∀w,S w->(execOp a.eval o).run P w=.ok (.value v) w)
 (h:zex P ops S K l (a.put o.dst v)):zex P ops S K (o::l) a:=⟨v,.inl ⟨hw,hy⟩,h⟩
def zi7 (ops:Array Oper):Nat->Nat->Array Bool->Bool
 |0,_,_=>true
 |m+1,k,listed=>Region.free .any ops listed k&&(Region.ready .any ops listed).contains k&&zi7 ops m (k+1) (listed.setIfInBounds k true)
def zjs:Nat->Nat->Array Bool->Array Bool
 |0,_,listed=>listed
 |m+1,k,listed=>zjs m (k+1) (listed.setIfInBounds k true)
theorem zko {S:zA->Prop} {Q:Exit->Act->zA->Prop} {w:zA} (hs:Region.noSelect ops=true) (hQ:∀c a b w,Q (.panic c) a w->Q (.panic c) b w) (hS:S w) (g:Nat):
 ∀(l:List Oper) (k:Nat) (listed:Array Bool) (a:Act),(∀j,j<l.length->l[j]? =ops[k+j]?)->zi7 ops l.length k listed=true->
  zex P ops S (λa'=>wpAnyH P .any ops Q S g (zjs l.length k listed) a' w) l a->wpAnyH P .any ops Q S (l.length+g) listed a w
 |[],k,listed,a,_,_,h=>by rw[List.length_nil,Nat.zero_add];exact h
 |o::l,k,listed,a,hl,hB,⟨v,hy,h⟩=>by
  have h0:ops[k]? =some o:=by simpa using(hl 0 (by simp)).symm
  simp only[yA,zi7,Bool.and_eq_true] at hB;rw[yA,show l.length+1+g=(l.length+g)+1 by omega];refine wpAnyH_take h0 hs hB.1.1 hB.1.2 (λc a w h=>hQ c _ _ w h) hy hS ?_;exact zko hs hQ hS g l (k+1) _ _ (λj hj=>by have:=hl (j+1) (by simpa using hj);simpa [Nat.add_assoc,Nat.add_comm 1 j] using this) hB.2 h
def zdw (P:Program) (ops:Array Oper) (Q:Exit->Act->zA->Prop) (S:zA->Prop):List Oper->Act->zA->Prop
 |[],a,w=>Q .normal a w
 |o::rest,a,w=>if Region.wanted o (yielded ops a.tmps) then o.wp P a w (λa' w'=>S w'/\zdw P ops Q S rest a' w') Q else S w/\zdw P ops Q S rest (a.put o.dst undef) w
theorem zbt {Q:Exit->Act->zA->Prop} {S:zA->Prop} {o:Oper} {rest:List Oper} {a:Act} {w:zA} (hw:Region.wanted o (yielded ops a.tmps)=true)
 (h:∀K:Act->zA->Prop,(∀a' w',S w'->zdw P ops Q S rest a' w'->K a' w')->o.wp P a w K Q):zdw P ops Q S (o::rest) a w:=by
 simp only[zdw,hw,if_true];exact h _ λa' w' h1 h2=>⟨h1,h2⟩
theorem ze7 {Q:Exit->Act->zA->Prop} {S:zA->Prop} {a:Act} {w:zA} (h:Q .normal a w):zdw P ops Q S [] a w:=h
theorem zkp {S:zA->Prop} {Q:Exit->Act->zA->Prop}:∀(l:List Oper) (k:Nat) (listed:Array Bool) (a:Act) (w:zA),(∀j,l[j]? =ops[k+j]?)->
 Region.seqB .any ops l.length k listed=true->zdw P ops Q S l a w->wpAnyH P .any ops Q S l.length listed a w
 |[],_,_,_,_,_,hB,h=>⟨by simpa [Region.seqB] using hB,h⟩
 |o::l,k,listed,a,w,hl,hB,h=>by
  have h0:ops[k]? =some o:=by simpa using(hl 0).symm
  simp only[yA,Region.seqB,Bool.and_eq_true,decide_eq_true_eq] at hB;refine wpAnyH_all hB.1 (by simp) λi hi=>?_;have hik:i=k:=by simpa using hi
  subst hik;have hrec:∀a' w',(S w'/\zdw P ops Q S l a' w')->(S w'/\wpAnyH P .any ops Q S l.length (listed.setIfInBounds i true) a' w'):=λa' w' h'=>
   ⟨h'.1,zkp l (i+1) _ a' w' (λj=>by have:=hl (j+1);simpa [Nat.add_assoc,Nat.add_comm 1 j] using this) hB.2 h'.2⟩
  refine wpOp_mono hrec ?_;unfold wpOp;simp only[h0];simp only[zdw] at h;by_cases hw:Region.wanted o (yielded ops a.tmps)=true
  ·simp only[hw,if_true] at h⊢;exact .inl h
  ·simp only[hw,Bool.false_eq_true,if_false] at h⊢;exact h
theorem zmp {l m id:Nat} {Q:Exit->Act->zA->Prop} {a:Act} {w:zA} {ol:List Oper} (n:Nat) (S:zA->Prop) (hm:P.follows .mixedOrders=true)
 (hB:(Region.noSelect ol.toArray&&zhj ol.toArray&&decide (n<ol.length)&&zi7 ol.toArray n 0 (Array.replicate ol.length false)&&Region.seqB .any ol.toArray (ol.length-n) n (zjs n 0 (Array.replicate ol.length false)))=true)
 (hS:S {w with drawn:=w.drawn+1})
 (h:zex P ol.toArray S (λa'=>zdw P ol.toArray (λe a w=>e=.normal/\Q .normal a w) S (ol.drop n) a' {w with drawn:=w.drawn+1}) (ol.take n) a):
 (Code.region id ol.toArray true).wpIn (Fence.wide.inRound l) m P Q a w:=by
 simp only[Bool.and_eq_true,decide_eq_true_eq] at hB;obtain⟨⟨⟨⟨hsel,hnd⟩,hn⟩,hlex⟩,hseq⟩:=hB;have htl:(ol.take n).length=n:=by simp;omega
 have hdl:(ol.drop n).length=ol.length-n:=by simp
 refine wpIn_region_any hm (zd4 hnd (Q:=λe a w=>e=.normal/\Q .normal a w) (λe a w h h'=>h h'.1) (λa w h=>h.2) _ _ _ _ (wpAny_of_held _ _ _ _ (S:=S) ?_))
 have H:=zko (P:=P) (ops:=ol.toArray) (S:=S) (Q:=λe a w=>e=.normal/\Q .normal a w) hsel (λc a b w h=>absurd h.1 (by intro e;cases e)) hS (ol.length-n) (ol.take n) 0 (Array.replicate ol.length false) a
  (λj hj=>by have hj':j<n:=by rw[htl] at hj;exact hj
             simp[hj']) (by rw[htl];exact hlex) (by
    rw[htl];refine zhv ?_ _ _ h;intro a' h';have:=zkp (P:=P) (ops:=ol.toArray) (Q:=λe a w=>e=.normal/\Q .normal a w) (S:=S) (ol.drop n) n _ a' _ (λj=>by simp[List.getElem?_drop]) (by rw[hdl];exact hseq) h';rwa [hdl] at this)
 rw[htl,show n+(ol.length-n)=ol.length by omega] at H;simpa using H
end Go.Proofs.YtfoodcpnnmonhaaGreatDoor
namespace Go.Proofs.YtfoodcpnnmonhaaGreatDoor
open Go
variable {P:Program} {ops:Array Oper}
def zfx (P:Program) (C:zA->Prop) (v:Value):Result Next->Prop
 | .ok (.value u) w'=>u=v/\C w'
 | .ok .skip w'=>v=undef/\C w'
 | .ok (.enter f args) w'=>zC P f args w' (λe w''=>e=.returned v/\C w'')
 |_=>False
structure AcAt (ops:Array Oper) (i:Nat) (L:Array Bool):Prop where
 size:L.size=ops.size
 self:L.getD i false=false
 done:∀j,Region.waitsFor .any ops i j=true->L.getD j false=true
 closed:∀i j,L.getD i false=true->Region.waitsFor .any ops i j=true->L.getD j false=true
def zcr (ops:Array Oper) (i:Nat):Option Tmp:=(ops[i]?).bind (·.dst)
def zi8 (ops:Array Oper) (i:Nat):List Tmp:=match ops[i]? with|some o=>o.looksAt ops|none=>[]
def acB (ops:Array Oper):Bool:=
 Region.noSelect ops&&(List.range ops.size).all λi=>(List.range ops.size).all λj=>
  (i==j||match zcr ops j with
    |none=>true
    |some d=>(zcr ops i !=some d)&&(!(zi8 ops i).contains d||(if j<i then Region.waitsFor .any ops i j else Region.waitsFor .any ops j i)))
def zfd (ops:Array Oper):Bool:=(List.range ops.size).all λi=>match ops[i]? with|some (o:Oper)=>o.after.all λ(e:Edge)=>!Region.binds .any e||decide (e.on<i)|none=>true
def zax (ops:Array Oper) (vs:Nat->Value) (a:Act) (L:Array Bool):Nat->Act
 |0=>a
 |k+1=>if L.getD k false then(zax ops vs a L k).put (zcr ops k) (vs k) else zax ops vs a L k
theorem zyo (a:Act) (d:Option Tmp) (v:Value):(a.put d v).tmps.size=a.tmps.size:=by cases d<;>simp[Act.put]
theorem zg8 (vs:Nat->Value) (a:Act) (L:Array Bool):∀k,(zax ops vs a L k).tmps.size=a.tmps.size
 |0=>rfl
 |k+1=>by
  simp only[zax];split
  ·rw[zyo,zg8 vs a L k]
  ·exact zg8 vs a L k
theorem zod (a:Act) (d:Option Tmp) (v:Value) (t:Nat):(a.put d v).tmps[t]? =if d=some t/\t<a.tmps.size then some v else a.tmps[t]? :=by
 cases d with
 |none=>simp[Act.put]
 |some d=>
  simp only[Act.put,Array.getElem?_setIfInBounds,Option.some.injEq];by_cases h:d=t
  ·subst h
   by_cases h2:d<a.tmps.size
   ·simp[h2]
   ·simp[h2]
  ·simp[h]
theorem zib (vs:Nat->Value) (a:Act) (L L':Array Bool) (t:Nat):∀k,(∀j,j<k->zcr ops j=some t->L.getD j false=L'.getD j false)->(zax ops vs a L k).tmps[t]? =(zax ops vs a L' k).tmps[t]?
 |0,_=>rfl
 |k+1,h=>by
  have ih:=zib vs a L L' t k (λj hj=>h j (by omega));simp only[zax];by_cases hd:zcr ops k=some t
  ·rw[h k (by omega) hd]
   split
   ·rw[zod,zod,zg8,zg8,ih]
   ·exact ih
  ·have e:∀b:Act,(b.put (zcr ops k) (vs k)).tmps[t]? =b.tmps[t]? :=λb=>by rw[zod,if_neg (λh=>hd h.1)]
   split<;>split
   ·rw[e,e];exact ih
   ·rw[e];exact ih
   ·rw[e];exact ih
   ·exact ih
theorem zdp (L:Array Bool) (i j:Nat) (hi:i<L.size):(L.setIfInBounds i true).getD j false=if i=j then true else L.getD j false:=by
 have hg:∀(M:Array Bool),M.getD j false=(M[j]?).getD false:=λM=>by simp
 rw[hg,hg,Array.getElem?_setIfInBounds];by_cases h:i=j
 ·subst h;simp[hi]
 ·simp[h]
theorem zic (vs:Nat->Value) (a:Act) (L:Array Bool) (i:Nat) (hi:i<L.size) (hL:L.getD i false=false) (hd:∀j d,j≠i->zcr ops i=some d->zcr ops j≠some d):
 ∀k,zax ops vs a (L.setIfInBounds i true) k=if i<k then(zax ops vs a L k).put (zcr ops i) (vs i) else zax ops vs a L k
 |0=>by simp[zax]
 |k+1=>by
  have ih:=zic vs a L i hi hL hd k;unfold zax;rw[zdp L i k hi,ih];rcases Nat.lt_trichotomy i k with h|h|h
  ·rw[if_neg (show ¬i=k by omega),if_pos h,if_pos (show i<k+1 by omega)]
   split
   ·exact Act.put_comm _ _ _ (λd e=>hd k d (by omega) e)
   ·rfl
  ·subst h
   rw[if_pos rfl,if_neg (Nat.lt_irrefl _),if_pos rfl,if_pos (Nat.lt_succ_self _),hL];simp
  ·rw[if_neg (show ¬i=k by omega),if_neg (show ¬i<k by omega),if_neg (show ¬i<k+1 by omega)]
def zbw (n k:Nat):Array Bool:=(Array.range n).map λi=>decide (i<k)
theorem zd5 (n k j:Nat):(zbw n k).getD j false=(decide (j<n)&&decide (j<k)):=by
 simp only[zbw,Array.getD_eq_getD_getElem?];by_cases h:j<n
 ·simp[h]
 ·simp[h]
theorem zit {a b:Act} {o:Oper} (hs:∀cs b,o.op≠ .select cs b) (h:∀t∈o.looksAt ops,a.tmps[t]? =b.tmps[t]?):
 execOp a.eval o=execOp b.eval o/\Region.wanted o (yielded ops a.tmps)=Region.wanted o (yielded ops b.tmps):=by
 constructor
 ·refine execOp_congr o hs λx hx=>?_
  cases x with
  |tmp t=>
   have:=h t (List.mem_append_left _ (List.mem_filterMap.2 ⟨.tmp t,by simpa using hx,rfl⟩));simp[Act.eval,Array.getD_eq_getD_getElem?,this]
  |_=>rfl
 ·unfold Region.wanted
  cases hg:o.guard with
  |none=>rfl
  |some g=>
   obtain⟨g,want⟩:=g;have e:yielded ops a.tmps g=yielded ops b.tmps g:=by
    unfold yielded
    cases hd:(ops[g]?).bind (·.dst) with
    |none=>rfl
    |some t=>
     have:=h t (List.mem_append_right _ (by rw[hg];simp[hd]));simp[this]
   simp[e]
theorem zmq (hB:(acB ops&&zfd ops)=true):Region.noSelect ops=true/\(∀i j d,i<ops.size->j<ops.size->i≠j->zcr ops j=some d->zcr ops i≠some d)/\
 (∀i j d,i<ops.size->j<ops.size->i≠j->zcr ops j=some d->d∈zi8 ops i->(j<i/\Region.waitsFor .any ops i j=true)\/(i<j/\Region.waitsFor .any ops j i=true))/\
 (∀(i:Nat) (o:Oper),ops[i]? =some o->∀(e:Edge),e∈o.after->Region.binds .any e=true->e.on<i):=by
 simp only[acB,zfd,Bool.and_eq_true,List.all_eq_true,List.mem_range] at hB;obtain⟨⟨h1,h2⟩,h4⟩:=hB;refine⟨h1,λi j d hi hj hne hd=>?_,λi j d hi hj hne hd hl=>?_,λi o ho e he hbe=>?_⟩
 ·have:=h2 i hi j hj
  rw[hd] at this;simp[hne] at this;exact this.1
 ·have:=h2 i hi j hj
  rw[hd] at this;simp[hne] at this;have h3:=this.2;rcases h3 with h3|h3
  ·exact absurd hl h3
  ·by_cases hji:j<i
   ·simp[hji] at h3;exact .inl ⟨hji,h3⟩
   ·simp[hji] at h3;exact .inr ⟨by omega,h3⟩
 ·have:=h4 i (Array.getElem?_eq_some_iff.1 ho).1
  rw[ho] at this;have:=Array.all_eq_true'.1 this e he;simpa [hbe] using this
def zue (P:Program) (ops:Array Oper) (C:Array Bool->zA->Prop) (i:Nat) (o:Oper) (a:Act) (v:Value):Prop:=
 ∀L w,AcAt ops i L->C L w->if Region.wanted o (yielded ops a.tmps) then zfx P (C (L.setIfInBounds i true)) v ((execOp a.eval o).run P w) else v=undef/\C (L.setIfInBounds i true) w
theorem zjt {o:Oper} {a:Act} {v:Value} {w:zA} {C:zA->Prop} {K:Act->zA->Prop} {Q:Exit->Act->zA->Prop} (hK:∀w',C w'->K (a.put o.dst v) w') (h:zfx P C v ((execOp a.eval o).run P w)):o.wp P a w K Q:=by
 unfold Oper.wp;generalize (execOp a.eval o).run P w=r at*
 cases r with
 |ok x w'=>
  cases x<;>simp only[zfx] at h<;>simp only[Oper.upon]
  ·obtain⟨rfl,h⟩:=h;exact hK _ h
  ·obtain⟨rfl,h⟩:=h;exact hK _ h
  ·exact h.mono λe w'' ⟨he,hc⟩=>by subst he;exact hK _ hc
 |halt x w'=>simp only[zfx] at h
def zoe (ops:Array Oper) (L:Array Bool):Prop:=∀i j,L.getD i false=true->Region.waitsFor .any ops i j=true->L.getD j false=true
theorem zyp {Q:Exit->Act->zA->Prop} {C:Array Bool->zA->Prop} (hB:(acB ops&&zfd ops)=true) (vs:Nat->Value) (a:Act)
 (step:∀i o,ops[i]? =some o->zue P ops C i o (zax ops vs a (zbw ops.size i) ops.size) (vs i))
 (hend:∀L w,(∀i,i<ops.size->L.getD i false=true)->C L w->Q .normal (zax ops vs a (zbw ops.size ops.size) ops.size) w):
 ∀(fuel:Nat) (L:Array Bool) (w:zA),L.size=ops.size->zoe ops L->((List.range ops.size).filter λi=>!L.getD i false).length<=fuel->C L w->wpAny P .any ops Q fuel L (zax ops vs a L ops.size) w:=by
 obtain⟨hsel,hdist,hlook,hback⟩:=zmq hB;have hq:∀L w,(∀i,i<ops.size->L.getD i false=true)->C L w->Q .normal (zax ops vs a L ops.size) w:=by
  intro L w hall hC;have e:zax ops vs a L ops.size=zax ops vs a (zbw ops.size ops.size) ops.size:=by
   have:∀k,k<=ops.size->zax ops vs a L k=zax ops vs a (zbw ops.size ops.size) k:=by
    intro k
    induction k with
    |zero=>intro _;rfl
    |succ k ih=>
     intro hk;simp only[zax];rw[ih (by omega),hall k (by omega),zd5];simp[show k<ops.size by omega]
   exact this _ (zN _)
  rw[e];exact hend L w hall hC
 have hready:∀L,L.size=ops.size->Region.ready .any ops L=[]->∀i,i<ops.size->L.getD i false=true:=by
  intro L hsz h0 i
  induction i using Nat.strongRecOn with
  |_ i ih=>
   intro hi
   cases hl:L.getD i false with
   |true=>rfl
   |false=>
    have hm:i∈Region.ready .any ops L:=by
     refine mem_ready.2 ⟨getD_in (by omega) hl,ops[i],by simp[hi],λe he hb=>?_⟩;have hlt:=hback i (ops[i]) (show ops[i]? =some (ops[i]) from Array.getElem?_eq_getElem hi) e he hb;exact ih e.on hlt (Nat.lt_trans hlt hi)
    rw[h0] at hm;cases hm
 intro fuel
 induction fuel with
 |zero=>
  intro L w hsz hcl hcount hC;have hall:∀i,i<ops.size->L.getD i false=true:=by
   intro i hi
   cases hl:L.getD i false with
   |true=>rfl
   |false=>
    have:i∈(List.range ops.size).filter λi=>!L.getD i false:=List.mem_filter.2 ⟨List.mem_range.2 hi,by rw[hl];rfl⟩;rw[List.length_eq_zero_iff.1 (Nat.le_zero.1 hcount)] at this;cases this
  refine⟨?_,hq L w hall hC⟩;apply List.eq_nil_iff_forall_not_mem.2;intro i hi;obtain⟨h1,o,ho,_⟩:=mem_ready.1 hi;have:=hall i (Array.getElem?_eq_some_iff.1 ho).1;rw[getD_both h1] at this;cases this
 |succ fuel ih=>
  intro L w hsz hcl hcount hC;refine⟨λh0=>hq L w (hready L hsz h0) hC,λi hi=>?_⟩;obtain⟨h1,o,ho,hall⟩:=mem_ready.1 hi;have hin:i<ops.size:=(Array.getElem?_eq_some_iff.1 ho).1;have hLi:=getD_both h1;have hdone:∀j,Region.waitsFor .any ops i j=true->L.getD j false=true:=by
   intro j hw;obtain⟨o',ho',e,he,hb,rfl⟩:=Region.waitsFor_spec hw;have:o'=o:=Option.some.inj (ho'.symm.trans ho);subst this;exact hall e he hb
  have hopen:∀j,Region.waitsFor .any ops j i=true->L.getD j false=false:=by
   intro j hw
   cases hl:L.getD j false with
   |false=>rfl
   |true=>rw[hcl j i hl hw] at hLi;cases hLi
  have hat:AcAt ops i L:=⟨hsz,hLi,hdone,hcl⟩;have hst:=step i o ho L w hat hC
  have hset:=zic vs a L i (by omega) hLi (λj d hne hd hj=>by
   rcases Nat.lt_or_ge j ops.size with hjn|hjn
   ·exact hdist i j d hin hjn (Ne.symm hne) hj hd
   ·simp[zcr,Array.getElem?_eq_none hjn] at hj) ops.size
  rw[if_pos hin] at hset;have hsame:=zit (ops:=ops) (a:=zax ops vs a L ops.size) (b:=zax ops vs a (zbw ops.size i) ops.size) (o:=o) (λcs b=>Region.noSelect_spec hsel i o cs b ho) (λt ht=>by
   refine zib vs a L _ t ops.size λj hj hd=>?_;rw[zd5];by_cases hji:j=i
   ·subst hji;rw[hLi];simp
   ·have:=hlook i j t hin hj (Ne.symm hji) hd (by simpa [zi8,ho] using ht)
    rcases this with⟨h2,h3⟩|⟨h2,h3⟩
    ·rw[hdone j h3];simp[hj,h2]
    ·rw[hopen j h3];simp;omega)
  have hnext:∀w',C (L.setIfInBounds i true) w'->wpAny P .any ops Q fuel (L.setIfInBounds i true) ((zax ops vs a L ops.size).put o.dst (vs i)) w':=by
   intro w' hC';have hd:o.dst=zcr ops i:=by simp[zcr,ho]
   rw[hd,<-hset];refine ih _ w' (by simpa using hsz) ?_ ?_ hC'
   ·intro x y hx hw
    rw[zdp L i _ (by omega)] at hx⊢;split
    ·rfl
    ·split at hx
     ·rename_i h;subst h;exact hdone y hw
     ·exact hcl x y hx hw
   ·have e:((List.range ops.size).filter λx=>!(L.setIfInBounds i true).getD x false)=((List.range ops.size).filter λx=>!L.getD x false).filter λx=>decide (x≠i):=by
     rw[List.filter_filter];refine List.filter_congr λx _=>?_;rw[zdp L i x (by omega)];by_cases h:i=x
     ·subst h;simp
     ·simp[h,Ne.symm h]
    rw[e];have:=(List.length_filter_lt_length_iff_exists (l:=(List.range ops.size).filter λx=>!L.getD x false) (p:=λx=>decide (x≠i))).2 ⟨i,List.mem_filter.2 ⟨List.mem_range.2 hin,by rw[hLi];rfl⟩,by simp⟩;omega
  unfold wpOp;simp only[ho];rw[hsame.2];by_cases hw:Region.wanted o (yielded ops (zax ops vs a (zbw ops.size i) ops.size).tmps)=true
  ·rw[if_pos hw] at hst⊢
   rw[<-hsame.1] at hst;exact .inl (zjt hnext hst)
  ·rw[if_neg hw] at hst⊢
   rw[hst.1] at hnext;exact hnext _ hst.2
structure AcF (ops:Array Oper) (i:Nat) (f:Nat->Bool):Prop where
 self:f i=false
 done:∀j,Region.waitsFor .any ops i j=true->f j=true
 closed:∀i j,f i=true->Region.waitsFor .any ops i j=true->f j=true
theorem AcF.no {i:Nat} {f:Nat->Bool} (h:AcF ops i f) {j k:Nat} (h0:f k=false) (hw:Region.waitsFor .any ops j k=true):f j=false:=by
 cases hj:f j with
 |false=>rfl
 |true=>rw[h.closed j k hj hw] at h0;cases h0
def zwa (P:Program) (ops:Array Oper) (C:(Nat->Bool)->zA->Prop) (i:Nat) (o:Oper) (a:Act) (v:Value):Prop:=
 ∀f w,AcF ops i f->C f w->
  if Region.wanted o (yielded ops a.tmps) then zfx P (C (λj=>if i=j then true else f j)) v ((execOp a.eval o).run P w) else v=undef/\C (λj=>if i=j then true else f j) w
def AcL (P:Program) (ops:Array Oper) (C:(Nat->Bool)->zA->Prop) (K:Act->zA->Prop):Nat->List Oper->Act->Prop
 |_,[],a=>∀f w,(∀i,i<ops.size->f i=true)->C f w->K a w
 |k,o::rest,a=>∃v,zwa P ops C k o a v/\AcL P ops C K (k+1) rest (a.put o.dst v)
theorem zck {C:(Nat->Bool)->zA->Prop} {K:Act->zA->Prop} {k:Nat} {a:Act} (h:∀f w,(∀i,i<ops.size->f i=true)->C f w->K a w):AcL P ops C K k [] a:=h
theorem zab {C:(Nat->Bool)->zA->Prop} {K:Act->zA->Prop} {k:Nat} {o:Oper} {rest:List Oper} {a:Act} {v:Value} (hw:Region.wanted o (yielded ops a.tmps)=true)
 (hset:∀f w,C f w->C (λj=>if k=j then true else f j) w)
 (hy:∀f w,AcF ops k f->C f w->(execOp a.eval o).run P w=.ok (.value v) w)
 (h:AcL P ops C K (k+1) rest (a.put o.dst v)):AcL P ops C K k (o::rest) a:=by
 refine⟨v,λf w hf hC=>?_,h⟩;rw[if_pos hw,hy f w hf hC];exact⟨rfl,hset f w hC⟩
theorem zar {C:(Nat->Bool)->zA->Prop} {K:Act->zA->Prop} {k:Nat} {o:Oper} {rest:List Oper} {a:Act} (v:Value) (hw:Region.wanted o (yielded ops a.tmps)=true)
 (hy:∀f w,AcF ops k f->C f w->∀C':zA->Prop,(∀w',C (λj=>if k=j then true else f j) w'->C' w')->zfx P C' v ((execOp a.eval o).run P w))
 (h:AcL P ops C K (k+1) rest (a.put o.dst v)):AcL P ops C K k (o::rest) a:=by
 refine⟨v,λf w hf hC=>?_,h⟩;rw[if_pos hw];exact hy f w hf hC _ λ_ h=>h
def zbq (vs:Nat->Value):Nat->List Oper->Act->Nat->Act
 |_,_,a,0=>a
 |_,[],a,_+1=>a
 |k,o::l,a,i+1=>zbq vs (k+1) l (a.put o.dst (vs k)) i
theorem zl2 (vs:Nat->Value):∀(l:List Oper) (k:Nat) (a:Act) (i:Nat),i<l.length->zbq vs k l a (i+1)=(zbq vs k l a i).put ((l[i]?).bind (·.dst)) (vs (k+i))
 |[],_,_,_,h=>absurd h (Nat.not_lt_zero _)
 |o::l,k,a,0,_=>by cases l<;>simp[zbq]
 |o::l,k,a,i+1,h=>by
  have:=zl2 vs l (k+1) (a.put o.dst (vs k)) i (by simpa using h);simp only[zbq] at this⊢;rw[this];simp[Nat.add_comm,Nat.add_left_comm]
theorem zqu {C:(Nat->Bool)->zA->Prop} {K:Act->zA->Prop}:∀(l:List Oper) (k:Nat) (a:Act),AcL P ops C K k l a->
 ∃vs:Nat->Value,(∀i o,l[i]? =some o->zwa P ops C (k+i) o (zbq vs k l a i) (vs (k+i)))/\(∀f w,(∀i,i<ops.size->f i=true)->C f w->K (zbq vs k l a l.length) w)
 |[],k,a,h=>⟨λ_=>undef,λi o h=>by simp at h,h⟩
 |o::l,k,a,⟨v,hv,h⟩=>by
  obtain⟨vs,h1,h2⟩:=zqu l (k+1) _ h;have hc:∀(l:List Oper) (vs vs':Nat->Value) (k:Nat) (a:Act) (i:Nat),(∀j,k<=j->vs j=vs' j)->zbq vs k l a i=zbq vs' k l a i:=by
   intro l
   induction l with
   |nil=>intro vs vs' k a i _;cases i<;>rfl
   |cons o l ih=>
    intro vs vs' k a i he
    cases i with
    |zero=>rfl
    |succ i=>simp only[zbq];rw[he k (zN _)];exact ih vs vs' (k+1) _ i λj hj=>he j (by omega)
  have hvs:∀j,k+1<=j->(if j=k then v else vs j)=vs j:=λj hj=>if_neg (by omega);refine⟨λj=>if j=k then v else vs j,λi o' ho=>?_,?_⟩
  ·cases i with
   |zero=>
    obtain rfl:o=o':=by simpa using ho
    simpa [zbq] using hv
   |succ i=>
    have:=h1 i o' (by simpa using ho);simp only[zbq];rw[hc l _ vs (k+1) _ i hvs];simp only[if_true];rw[if_neg (by omega)];rw[show k+(i+1)=k+1+i by omega];exact this
  ·simp only[zbq,yA]
   rw[hc l _ vs (k+1) _ _ hvs];simpa using h2
theorem zdg (vs:Nat->Value) (l:List Oper) (a:Act) (i:Nat) (hi:i<=l.length):∀k,k<=l.length->zax l.toArray vs a (zbw l.length i) k=zbq vs 0 l a (min i k)
 |0,_=>by simp[zax,zbq]
 |k+1,hk=>by
  have ih:=zdg vs l a i hi k (by omega);simp only[zax];rw[zd5,ih];by_cases h:k<i
  ·simp only[show k<l.length by omega,h,decide_true,Bool.and_self,if_true]
   rw[Nat.min_eq_right (by omega),Nat.min_eq_right (by omega),zl2 vs l 0 a k (by omega)];simp[zcr]
  ·simp only[h,decide_false,Bool.and_false,Bool.false_eq_true,if_false]
   rw[Nat.min_eq_left (by omega),Nat.min_eq_left (by omega)]
theorem zwb {K:Act->zA->Prop} {Q:Exit->Act->zA->Prop} (hQ:∀a w,K a w->Q .normal a w) {l:List Oper} (C:(Nat->Bool)->zA->Prop) (hB:(acB l.toArray&&zfd l.toArray)=true) {a:Act} {w:zA} (hC:C (λ_=>false) w) (h:AcL P l.toArray C K 0 l a):
 wpAny P .any l.toArray Q l.toArray.size (Array.replicate l.toArray.size false) a w:=by
 obtain⟨vs,h1,h2⟩:=zqu l 0 a h;have e0:zax l.toArray vs a (Array.replicate l.toArray.size false) l.toArray.size=a:=by
  have:∀k,zax l.toArray vs a (Array.replicate l.toArray.size false) k=a:=by
   intro k
   induction k with
   |zero=>rfl
   |succ k ih=>
    have:(Array.replicate l.toArray.size false).getD k false=false:=by
     simp only[Array.getD];split<;>simp
    simp only[zax,this,Bool.false_eq_true,if_false];exact ih
  exact this _
 have:=zyp (P:=P) (ops:=l.toArray) (Q:=Q) (C:=λL w=>C (λj=>L.getD j false) w) hB vs a ?_ ?_ l.toArray.size (Array.replicate l.toArray.size false) w (by simp) ?_ ?_ ?_
 ·rw[e0] at this;exact this
 ·intro i o ho L w hat hc
  have hi:i<l.length:=by
   have:=(Array.getElem?_eq_some_iff.1 ho).1;simpa using this
  have hst:=h1 i o (by simpa using ho) (λj=>L.getD j false) w (by rw[Nat.zero_add];exact⟨hat.self,hat.done,hat.closed⟩) hc;have ea:zax l.toArray vs a (zbw l.toArray.size i) l.toArray.size=zbq vs 0 l a i:=by
   have:=zdg vs l a i (by omega) l.length (zN _);rw[Nat.min_eq_left (by omega)] at this;simpa using this
  have es:(λj=>(L.setIfInBounds i true).getD j false)=(λj=>if i=j then true else L.getD j false):=by
   funext j;exact zdp L i j (by rw[hat.size];simpa using hi)
  rw[ea];simp only[es];simpa using hst
 ·intro L w hall hc
  have ea:zax l.toArray vs a (zbw l.toArray.size l.toArray.size) l.toArray.size=zbq vs 0 l a l.length:=by
   have:=zdg vs l a l.length (zN _) l.length (zN _);rw[Nat.min_self] at this;simpa using this
  rw[ea];exact hQ _ _ (h2 _ w hall hc)
 ·intro i j hi
  have:(Array.replicate l.toArray.size false).getD i false=false:=by simp only[Array.getD];split<;>simp
  rw[this] at hi;cases hi
 ·refine Nat.le_trans (List.length_filter_le _ _) (by simp)
 ·have:(λj=>(Array.replicate l.toArray.size false).getD j false)= λ_=>false:=by
   funext j;simp only[Array.getD];split<;>simp
  simpa only[this] using hC
theorem zbl {id:Nat} {Q:Exit->Act->zA->Prop} {a:Act} {w:zA} {l:List Oper} (C:(Nat->Bool)->zA->Prop) (hm:P.follows .mixedOrders=true) (hB:(acB l.toArray&&zfd l.toArray)=true) (hC:C (λ_=>false) {w with drawn:=w.drawn+1})
 (h:AcL P l.toArray C (Q .normal) 0 l a):(Code.region id l.toArray true).wp P Q a w:=
 wp_region_any hm (zwb (λ_ _ h=>h) C hB hC h)
theorem qR {C:(Nat->Bool)->zA->Prop} {K:Act->zA->Prop} {k:Nat} {o:Oper} {rest:List Oper} {a:Act} (v:Value) (h:AcL P ops C K (k+1) rest (a.put o.dst v)) (hw:Region.wanted o (yielded ops a.tmps)=true:=by rfl) (hset:∀f w,C f w->C (λj=>if k=j then true else f j) w:=by exact λ_ _ h=>h) (hy:∀f w,AcF ops k f->C f w->(execOp a.eval o).run P w=.ok (.value v) w:=by intro f W' hf h;go_simp):AcL P ops C K k (o::rest) a:=zab hw hset hy h
end Go.Proofs.YtfoodcpnnmonhaaGreatDoor
