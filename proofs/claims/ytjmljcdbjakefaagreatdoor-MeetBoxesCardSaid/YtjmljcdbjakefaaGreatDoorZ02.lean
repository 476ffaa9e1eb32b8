/- The contracts of -/
import Derived.Test.YtjmljcdbjakefaaGreatDoorZ01
import Derived.Shelf.Strings.BuilderK
import Derived.Shelf.Strings.SlTrimAscii
import Derived.Lib.ItoaNum
import Derived.Lib.AtoiTie
import Derived.Lib.AtoiAllCases
import Derived.WalkKit
import Derived.OwnWalk
import Derived.LoopTactic
import Derived.Outline
import Derived.Below
import Derived.Deep.QuietTactic
import Derived.BigQuiet
import Derived.WalkSpells
import Derived.WalkLawsBesides
import Derived.Lib.Hide
import Derived.Lib.AtoiErrMem
import Derived.Deep.RegionHeld3
import Derived.Deep.DrawnRows
import Derived.StillTailTactics
import Derived.Laws.AppendOwn
import Derived.Deep.LoopGhost
import Derived.Deep.Quiet
import Derived.RangeFuncNested
import Derived.RangeFuncBound
import Derived.RangeFuncCalls
import Derived.RangeFuncLeaves
import Derived.RangeFuncBox
import Derived.RangeFuncWrites
import Derived.Shelf.Abstract
import Derived.Shelf.RegionOpen
import Derived.OwnWalkIn
import Derived.TacticsInMore
import Derived.LoopNIn
import Derived.LoopIn
import Derived.Sort.EveryDepth
import Derived.OrdersIn
import Derived.Orders
import Derived.OrdersHeld
import Derived.StillTail
set_option maxRecDepth 100000
set_option maxHeartbeats 8000000
open Go.Value renaming slice → z7, string → z8, tuple → ze, pointer → zf, int → zj
open Go.IntKind renaming i64 → zm
open Go.Ending renaming returned → zo
open Option renaming none → zp, some → zq
open Bool renaming true → zt, false → zu
open Go renaming World → zA, Calls → zC
open Go.RowKit renaming Below → zB, intOf → zL
open Go.Lib renaming decDigits → zD, itoa → zE
open Go.Proofs.Tryz renaming prog → zF
open Go.IntWalk renaming i64_in → zI
open Go.RowKit.Below renaming refl → zM
open Nat renaming le_refl → zN, mod_lt → zP, zero_le → zR, pow_le_pow_right → yF, pow_succ → yO, mul_comm → yP, mul_add → yZ, mul_le_mul_left → xB, eq_zero_or_pos → xD
open List renaming length_map → zV, length_take → zX, length_cons → yA, length_nil → yT, take_of_length_le → xC
namespace Go.Proofs
open Go.Shelf Go.RowKit
def Tryz.lays167_ren:Go.Shelf.Ren:=⟨λ |167=>274|240=>305|276=>321|n=>n,λ |0=>0|4=>4|5=>5|9=>9|20=>20|37=>200|70=>342|72=>344|75=>308|164=>394|80=>346|n=>n,λ |n=>n⟩
theorem Tryz.lays167:Go.Proofs.Lays.n167 zF Tryz.lays167_ren:={
 mixed:=by kernel_rfl
 f167:=Tryz.func274.trans (congrArg zq (by kernel_rfl))
 f240:=Tryz.func305.trans (congrArg zq (by kernel_rfl))
 f276:=Tryz.func321.trans (congrArg zq (by kernel_rfl))
 t0:=Tryz.underlying0
 a0:=Tryz.isAgg0
 z0:=Tryz.sizeOf0
 v0:=Tryz.zeroValue0
 t4:=Tryz.underlying4
 a4:=Tryz.isAgg4
 z4:=Tryz.sizeOf4
 v4:=Tryz.zeroValue4
 t5:=Tryz.underlying5
 a5:=Tryz.isAgg5
 z5:=Tryz.sizeOf5
 v5:=Tryz.zeroValue5
 t9:=Tryz.underlying9
 a9:=Tryz.isAgg9
 z9:=Tryz.sizeOf9
 v9:=Tryz.zeroValue9
 t20:=Tryz.underlying20
 a20:=Tryz.isAgg20
 z20:=Tryz.sizeOf20
 v20:=Tryz.zeroValue20
 t37:=Tryz.underlying200
 a37:=Tryz.isAgg200
 z37:=Tryz.sizeOf200
 v37:=Tryz.zeroValue200
 t70:=Tryz.underlying342
 a70:=Tryz.isAgg342
 z70:=Tryz.sizeOf342
 v70:=Tryz.zeroValue342
 t72:=Tryz.underlying344
 a72:=Tryz.isAgg344
 z72:=Tryz.sizeOf344
 v72:=Tryz.zeroValue344
 t75:=Tryz.underlying308
 a75:=Tryz.isAgg308
 z75:=Tryz.sizeOf308
 v75:=Tryz.zeroValue308
 t164:=Tryz.underlying394
 a164:=Tryz.isAgg394
 z164:=Tryz.sizeOf394
 v164:=Tryz.zeroValue394}
def Tryz.lays166_ren:Go.Shelf.Ren:=⟨λ |166=>275|240=>305|276=>321|n=>n,λ |0=>0|3=>3|4=>4|9=>9|20=>20|37=>200|70=>342|72=>344|75=>308|164=>394|80=>346|n=>n,λ |n=>n⟩
theorem Tryz.lays166:Go.Proofs.Lays.n166 zF Tryz.lays166_ren:={
 mixed:=by kernel_rfl
 f166:=Tryz.func275.trans (congrArg zq (by kernel_rfl))
 f240:=Tryz.func305.trans (congrArg zq (by kernel_rfl))
 f276:=Tryz.func321.trans (congrArg zq (by kernel_rfl))
 t0:=Tryz.underlying0
 a0:=Tryz.isAgg0
 z0:=Tryz.sizeOf0
 v0:=Tryz.zeroValue0
 t3:=Tryz.underlying3
 a3:=Tryz.isAgg3
 z3:=Tryz.sizeOf3
 v3:=Tryz.zeroValue3
 t4:=Tryz.underlying4
 a4:=Tryz.isAgg4
 z4:=Tryz.sizeOf4
 v4:=Tryz.zeroValue4
 t9:=Tryz.underlying9
 a9:=Tryz.isAgg9
 z9:=Tryz.sizeOf9
 v9:=Tryz.zeroValue9
 t20:=Tryz.underlying20
 a20:=Tryz.isAgg20
 z20:=Tryz.sizeOf20
 v20:=Tryz.zeroValue20
 t37:=Tryz.underlying200
 a37:=Tryz.isAgg200
 z37:=Tryz.sizeOf200
 v37:=Tryz.zeroValue200
 t70:=Tryz.underlying342
 a70:=Tryz.isAgg342
 z70:=Tryz.sizeOf342
 v70:=Tryz.zeroValue342
 t72:=Tryz.underlying344
 a72:=Tryz.isAgg344
 z72:=Tryz.sizeOf344
 v72:=Tryz.zeroValue344
 t75:=Tryz.underlying308
 a75:=Tryz.isAgg308
 z75:=Tryz.sizeOf308
 v75:=Tryz.zeroValue308
 t164:=Tryz.underlying394
 a164:=Tryz.isAgg394
 z164:=Tryz.sizeOf394
 v164:=Tryz.zeroValue394}
theorem Tryz.Builder_Extra_167:Builder.Extra zF Tryz.lays167_ren where
 sizeBuilder:=by kernel_rfl
 liesBuilder:=by kernel_rfl
 t5:=Tryz.underlying5
 a5:=Tryz.isAgg5
 z5:=Tryz.sizeOf5
 v5:=Tryz.zeroValue5
 infoByte:=by kernel_rfl
 cellsByte:=by kernel_rfl
 sizeByte:=by kernel_rfl
 neB5:=by decide
theorem Tryz.Builder_Extra_166:Builder.Extra zF Tryz.lays166_ren where
 sizeBuilder:=by kernel_rfl
 liesBuilder:=by kernel_rfl
 t5:=Tryz.underlying5
 a5:=Tryz.isAgg5
 z5:=Tryz.sizeOf5
 v5:=Tryz.zeroValue5
 infoByte:=by kernel_rfl
 cellsByte:=by kernel_rfl
 sizeByte:=by kernel_rfl
 neB5:=by decide
theorem Tryz.WriteByte_k (B b:Nat) (a:List Value) (c:Int) (w:zA) (h:Lib.IsBuilderF 344 5 B b a w) (f:a.length+1<=140737488355328) (d:B<=w.heap.size):
 zC zF 274 #[zf (zq ⟨b,0,zp⟩),zj .u8 c] w λe w'=>e=zo .nilIface/\(Lib.BuilderAtF 344 5 B b (zf (zq ⟨b,0,zp⟩)) (a++[zj .u8 c]) w'/\zB B w w'/\Lib.OthersKept 5 (zq b) w w'):=
 Any.Builder_WriteByte_k Tryz.lays167 Tryz.Builder_Extra_167 B b a c w h f d
theorem Tryz.WriteString_k (B b:Nat) (c:List Value) (a:ByteArray) (w:zA) (h:Lib.IsBuilderF 344 5 B b c w) (f:c.length+a.size<=140737488355328) (d:B<=w.heap.size):
 zC zF 275 #[zf (zq ⟨b,0,zp⟩),z8 a] w λe w'=>e=zo (ze #[zj zm a.size,.nilIface])/\(Lib.BuilderAtF 344 5 B b (zf (zq ⟨b,0,zp⟩)) (c++Lib.strCells a) w'/\zB B w w'/\Lib.OthersKept 5 (zq b) w w'):=
 Any.Builder_WriteString_k Tryz.lays166 Tryz.Builder_Extra_166 B b c a w h f d
theorem Tryz.String_k (B b:Nat) (l:List UInt8) (w:zA) (h:Lib.IsBuilderF 344 5 B b (Lib.byteCells l) w) (a:B<=w.heap.size):
 zC zF 276 #[zf (zq ⟨b,0,zp⟩)] w λe w'=>e=zo (z8 ⟨l.toArray⟩)/\(Lib.IsBuilderF 344 5 B b (Lib.byteCells l) w'/\zB B w w'/\Lib.OthersKept 5 (zq b) w w'):=
 Any.Builder_String_any_k Tryz.lays169 Tryz.Builder_Extra_169 B b l w h a
theorem Tryz.Trim_ascii (c a:ByteArray) (w:zA) (g:c.size<=9223372036854775807) (f:a.size<4294967281) (d:∀(j:Nat) b,a.data.toList[j]? =zq b->b.toNat<128):
 zC zF 270 #[z8 c,z8 a] w λe w'=>e=zo (z8 ⟨(Lib.trimS c.data.toList a.data.toList).toArray⟩)/\zB w.heap.size w w':=
 Any.strings_Trim_laid Tryz.lays160 (by kernel_rfl) c a w g f d
#print axioms Tryz.WriteString_k
#print axioms Tryz.Trim_ascii
end Go.Proofs
namespace Go.Proofs.YtjmljcdbjakefaaGreatDoor
namespace Str
open Go.Lib
def val (l:List UInt8):Nat:=l.foldl (λa c=>10*a+(c.toNat-48)) 0
theorem zyb:val []=0:=rfl
theorem zde (l:List UInt8) (c:UInt8):val (l++[c])=10*val l+(c.toNat-48):=by simp[val]
def zcb (l:List UInt8):Prop:=l≠[]/\(∀c∈l,48<=c.toNat/\c.toNat<=57)/\(l.head? =zq 48->l.length=1)
theorem ofNat_toNat {n:Nat} (h:n<256):(UInt8.ofNat n).toNat=n:=by
 simp;omega
theorem zae {n:Nat} (h:n<10):zD n=[UInt8.ofNat (48+n)]:=by rw[zD,dif_pos h]
theorem zav {n:Nat} (h:10<=n):zD n=zD (n/10)++[UInt8.ofNat (48+n%10)]:=by rw[zD,dif_neg (by omega)]
theorem zi4 {n d:Nat} (h:0<n) (a:d<10):zD (10*n+d)=zD n++[UInt8.ofNat (48+d)]:=by
 rw[zav (by omega),show(10*n+d)/10=n by omega,show(10*n+d)%10=d by omega]
theorem zci (n:Nat):zD n≠[]:=by
 intro h;have:=decDigits_length n;have:=nDigits_pos n;rw[h] at*;simp at*;omega
theorem zan (n:Nat):∀c∈zD n,48<=c.toNat/\c.toNat<=57:=by
 induction n using Nat.strongRecOn with
 |_ n b=>
  by_cases h:n<10
  ·rw[zae h];intro c a
   simp only[List.mem_singleton] at a;subst a;rw[ofNat_toNat (by omega)];omega
  ·rw[zav (by omega)];intro c a
   rcases List.mem_append.1 a with a|a
   ·exact b _ (by omega) c a
   ·simp only[List.mem_singleton] at a
    subst a;rw[ofNat_toNat (by omega)];omega
theorem zb2 (n:Nat):val (zD n)=n:=by
 induction n using Nat.strongRecOn with
 |_ n a=>
  by_cases h:n<10
  ·rw[zae h];simp[val];omega
  ·rw[zav (by omega),zde,a _ (by omega),ofNat_toNat (by omega)];omega
theorem zfk {m n:Nat} (h:zD m=zD n):m=n:=by rw[<-zb2 m,<-zb2 n,h]
theorem zmm (n:Nat) (h:(zD n).head? =zq 48):n=0:=by
 induction n using Nat.strongRecOn with
 |_ n a=>
  by_cases hs:n<10
  ·rw[zae hs] at h
   simp only[List.head?_cons,Option.some.injEq] at h;have:=congrArg UInt8.toNat h;rw[ofNat_toNat (by omega)] at this;simp at this;omega
  ·rw[zav (by omega),List.head?_append] at h
   cases hd:(zD (n/10)).head? with
   |none=>exact absurd (List.head?_eq_none_iff.1 hd) (zci _)
   |some b=>
    rw[hd] at h;have:=a (n/10) (by omega) (by rw[hd];simpa using h);omega
theorem zhr (n:Nat):zcb (zD n):=
 ⟨zci n,zan n,λh=>by rw[zmm n h,decDigits_length,nDigits_small (by omega)]⟩
theorem zdj:zD 0=[48]:=by rw[zae (by omega)];rfl
theorem snoc_cases {α:Type}:∀(l:List α),l≠[]->∃i x,l=i++[x]
 |[],h=>absurd rfl h
 |a::r,_=>⟨(a::r).dropLast,(a::r).getLast (by simp),(List.dropLast_concat_getLast (by simp)).symm⟩
theorem zr7 (n:Nat):∀l:List UInt8,l.length=n->zcb l->l=zD (val l)/\(l.head? ≠zq 48->0<val l):=by
 induction n with
 |zero=>intro l e ⟨d,_⟩;exact absurd (List.length_eq_zero_iff.1 e) d
 |succ n t=>
  intro l e ⟨q,f,s⟩;obtain⟨b,a,rfl⟩:=snoc_cases l q;have v:=f a (by simp);have i:UInt8.ofNat (48+(a.toNat-48))=a:=by
   rw[show 48+(a.toNat-48)=a.toNat by omega];exact UInt8.ofNat_toNat
  by_cases hi:b=[]
  ·subst hi
   simp only[List.nil_append] at*
   have h:val [a]=a.toNat-48:=by simp[val]
   refine⟨?_,λd=>?_⟩
   ·rw[h,zae (by omega),i]
   ·rw[h]
    have:a.toNat≠48:=λc=>d (by
     have:a=48:=UInt8.toNat_inj.1 (by simpa using c);rw[this];rfl)
    omega
  ·have p:(b++[a]).head? =b.head? :=by
    cases b with
    |nil=>exact absurd rfl hi
    |cons u w=>rfl
   have g:b.head? ≠zq 48:=λc=>by
    have:=s (p.trans c);simp at this;exact hi this
   have ⟨k,m⟩:=t b (by simpa using e) ⟨hi,λj o=>f j (by simp[o]),λc=>absurd c g⟩;have r:=m g;refine⟨?_,λ_=>?_⟩
   ·rw[zde,zi4 r (by omega),i,<-k]
   ·rw[zde];omega
theorem zdd {l:List UInt8} (h:zcb l):zD (val l)=l:=(zr7 l.length l rfl h).1.symm
theorem zn9 (n k:Nat) (e:0<k):nDigits n<=k↔n<10^k:=by
 constructor
 ·intro b;exact Nat.lt_of_lt_of_le (lt_pow_nDigits n) (yF (by decide) b)
 ·induction n using Nat.strongRecOn generalizing k with
  |_ n f=>
   intro b;by_cases hs:n<10
   ·rw[nDigits_small hs];exact e
   ·rw[nDigits_big hs]
    obtain⟨a,rfl⟩:∃a,k=a+1:=⟨k-1,by omega⟩;have d:0<a:=by
     rcases xD a with rfl|c
     ·simp at b;omega
     ·exact c
    have:=f (n/10) (by omega) a d (by rw[yO] at b;omega);omega
theorem zaf (n k:Nat) (a:0<k):(zD n).length<=k↔n<10^k:=by rw[decDigits_length];exact zn9 n k a
theorem dec_head (n:Nat):∃c r,zD n=c::r/\48<=c.toNat/\c.toNat<=57:=by
 cases h:zD n with
 |nil=>exact absurd h (zci n)
 |cons c r=>exact⟨c,r,rfl,zan n c (by rw[h];simp)⟩
theorem zad (n:Nat):zE (n:Int)=zD n:=by
 unfold zE;rw[if_neg (by omega)];simp
theorem zga (n:Nat) (h:0<n):zE (-(n:Int))=45::zD n:=by
 unfold zE;rw[if_pos (by omega)];simp
theorem zb9:zE 0=[48]:=by
 have:=zad 0;rw[zdj] at this;simpa using this
theorem zmn:zE 1=[49]:=by
 have:=zad 1;rw[zae (by omega)] at this;simpa using this
theorem zdo {a b:Int} (h:zE a=zE b):a=b:=by
 unfold zE at h;obtain⟨e,l,c,g,j⟩:=dec_head a.toNat
 obtain⟨f,m,d,i,k⟩:=dec_head b.toNat
 split at h<;>split at h
 ·have:=zfk (List.cons.inj h).2;omega
 ·rw[d] at h
  have:=congrArg UInt8.toNat (List.cons.inj h).1;simp at this;omega
 ·rw[c] at h
  have:=congrArg UInt8.toNat (List.cons.inj h).1;simp at this;omega
 ·have:=zfk h;omega
def digs (a:Int):Nat:=(zD a.natAbs).length
theorem za3 (a:Int) (k:Nat) (b:0<k):digs a<=k↔a.natAbs<10^k:=zaf _ _ b
theorem zbn (a:Int):1<=digs a:=by unfold digs;rw[decDigits_length];exact nDigits_pos _
theorem zqo (a:Int):(zE a).length=digs a+if a<0 then 1 else 0:=by
 unfold zE digs;split
 ·simp
 ·simp[show a.toNat=a.natAbs by omega]
theorem zbr (a:Int):digs a<=(zE a).length:=by rw[zqo];omega
theorem za7 (a:Int):(zE a).length<=digs a+1:=by rw[zqo];split<;>omega
theorem zbg (a:Int):(0<=a/\zE a=zD a.natAbs)\/(a<0/\zE a=45::zD a.natAbs):=by
 unfold zE;split
 ·exact .inr ⟨by assumption,rfl⟩
 ·exact .inl ⟨by omega,by rw[show a.toNat=a.natAbs by omega]⟩
theorem zsm {c:UInt8} (h:48<=c.toNat/\c.toNat<=57):digitVal c=zq (c.toNat-48):=by
 unfold digitVal;rw[if_pos h]
theorem zl1:∀(l:List UInt8) (b:Nat),(∀c∈l,48<=c.toNat/\c.toNat<=57)->decFrom b l=zq (l.foldl (λa c=>10*a+(c.toNat-48)) b)
 |[],b,_=>rfl
 |c::r,b,h=>by
  have d:=h c (by simp);have:=zl1 r (b*10+(c.toNat-48)) (λf e=>h f (by simp[e]));simp only[decFrom,zsm d,List.foldl_cons];rw[this,yP b 10]
theorem zm8 (n:Nat):decNat (zD n)=zq n:=by
 unfold decNat
 have:(zD n).isEmpty=zu:=by
  cases h:zD n with
  |nil=>exact absurd h (zci n)
  |cons=>rfl
 rw[this,if_neg (by simp),zl1 _ _ (zan n)];exact congrArg zq (zb2 n)
theorem zv2 (a:Int):atoi (zE a)=zq a:=by
 rcases zbg a with⟨h,e⟩|⟨h,e⟩<;>rw[e]
 ·obtain⟨d,l,g,b,k⟩:=dec_head a.natAbs
  have f:=zm8 a.natAbs;rw[g] at f⊢;have i:(d==45)=zu:=by
   apply beq_eq_false_iff_ne.2;intro c;rw[c] at b;simp at b
  have j:(d==43)=zu:=by
   apply beq_eq_false_iff_ne.2;intro c;rw[c] at b;simp at b
  simp[atoi,i,j,f];omega
 ·simp[atoi,zm8];omega
end Str
namespace Limb
def valL (B:Nat):List Nat->Nat
 |[]=>0
 |x::r=>x+B*valL B r
theorem zir (B:Nat):∀l m:List Nat,valL B (l++m)=valL B l+B^l.length*valL B m
 |[],m=>by simp[valL]
 |x::r,m=>by
  simp only[List.cons_append,valL,zir B r m,yA,yO];rw[yZ,Nat.add_assoc,<-Nat.mul_assoc,yP B (B^r.length)]
theorem zcm (B:Nat) (l:List Nat) (x:Nat):valL B (l++[x])=valL B l+B^l.length*x:=by
 rw[zir];simp[valL]
def zal (B:Nat) (l:List Nat):Prop:=∀x∈l,x<B
theorem zqp {B:Nat} {l m:List Nat}:zal B (l++m)↔zal B l/\zal B m:=by
 unfold zal;simp only[List.mem_append];exact⟨λb=>⟨λa c=>b a (.inl c),λa c=>b a (.inr c)⟩,λb a c=>c.elim (b.1 a) (b.2 a)⟩
theorem zg4 {B:Nat} {l:List Nat} {x:Nat} (h:zal B l) (b:x<B):zal B (l++[x]):=
 zqp.2 ⟨h,λc a=>by simp only[List.mem_singleton] at a;omega⟩
theorem zkm (B:Nat):zal B []:=λ_ h=>by cases h
theorem zcu {B:Nat} {l:List Nat} (h:zal B l) (k:Nat):zal B (l.take k):=λb a=>h b (List.mem_of_mem_take a)
theorem zg5 {B:Nat} {l:List Nat} (h:zal B l) (k:Nat):zal B (l.drop k):=λb a=>h b (List.mem_of_mem_drop a)
theorem zv3 {B:Nat} {l:List Nat} (h:zal B l) {k x:Nat} (a:l[k]? =zq x):x<B:=h x (List.mem_of_getElem? a)
theorem zaj {B:Nat} {l:List Nat} (h:zal B l) (a:0<B) (k:Nat):l[k]?.getD 0<B:=by
 cases hx:l[k]? with
 |none=>simpa using a
 |some b=>simpa using zv3 h hx
theorem zb6 {B:Nat}:∀{l:List Nat},zal B l->valL B l<B^l.length
 |[],_=>by simp[valL]
 |a::r,h=>by
  have e:a<B:=h a (by simp);have c:=zb6 (l:=r) λd b=>h d (by simp[b]);simp only[valL,yA,yO,yP (B^r.length) B];have:B*valL B r+B<=B*B^r.length:=by
   rw[<-Nat.mul_succ];exact xB _ c
  omega
def zat (l:List Nat):List Nat:=(l.reverse.dropWhile (· ==0)).reverse
theorem zou:zat []=[]:=rfl
theorem zew (l:List Nat):zat (l++[0])=zat l:=by simp[zat]
theorem zhs (l:List Nat) {x:Nat} (h:x≠0):zat (l++[x])=l++[x]:=by
 simp[zat,h]
theorem snoc_cases {α:Type}:∀(l:List α),l=[]\/∃i x,l=i++[x]
 |[]=>.inl rfl
 |a::r=>.inr ⟨(a::r).dropLast,(a::r).getLast (by simp),(List.dropLast_concat_getLast (by simp)).symm⟩
theorem zg6 (n:Nat):∀l:List Nat,l.length=n->∃k,k<=l.length/\zat l=l.take k/\(∀B,valL B (zat l)=valL B l)/\(zat l=[]\/∃i x,zat l=i++[x]/\x≠0):=by
 induction n with
 |zero=>intro l a;have:=List.length_eq_zero_iff.1 a;subst this;exact⟨0,by simp,rfl,λ_=>rfl,.inl rfl⟩
 |succ n f=>
  intro l a;rcases snoc_cases l with rfl|⟨i,x,rfl⟩
  ·simp at a
  by_cases hx:x=0
  ·subst hx
   obtain⟨k,c,b,d,e⟩:=f i (by simpa using a);refine⟨k,by simp;omega,?_,λB=>?_,?_⟩
   ·rw[zew,b,List.take_append_of_le_length c]
   ·rw[zew,d,zcm];simp
   ·rw[zew];exact e
  ·exact⟨(i++[x]).length,zN _,by rw[zhs _ hx,List.take_length],λB=>by rw[zhs _ hx],.inr ⟨i,x,zhs _ hx,hx⟩⟩
theorem zkn (l:List Nat):(zat l).length<=l.length:=by
 obtain⟨c,b,a,_⟩:=zg6 _ l rfl;rw[a,zX];omega
theorem zjo (l:List Nat):zat l=l.take (zat l).length:=by
 obtain⟨b,c,a,_⟩:=zg6 _ l rfl;have:(zat l).length=b:=by rw[a];simp;omega
 rw[this];exact a
theorem zv4 (B:Nat) (l:List Nat):valL B (zat l)=valL B l:=by
 obtain⟨c,b,_,a,_⟩:=zg6 _ l rfl;exact a B
theorem zsn {B:Nat} {l:List Nat} (h:zal B l):zal B (zat l):=by rw[zjo];exact zcu h _
theorem zm9 (l:List Nat):zat l=[]\/∃i x,zat l=i++[x]/\x≠0:=by
 obtain⟨c,b,_,_,a⟩:=zg6 _ l rfl;exact a
def zaa (B n:Nat):List Nat:=
 if _h:n=0\/B<2 then[] else(n%B)::zaa B (n/B)
 termination_by n
 decreasing_by exact Nat.div_lt_self (by omega) (by omega)
theorem zaz (B:Nat):zaa B 0=[]:=by rw[zaa,dif_pos (.inl rfl)]
theorem zfl {B n:Nat} (a:2<=B) (b:n≠0):zaa B n=(n%B)::zaa B (n/B):=by rw[zaa,dif_neg (by omega)]
theorem zam {B:Nat} (a:2<=B) (n:Nat):valL B (zaa B n)=n:=by
 induction n using Nat.strongRecOn with
 |_ n b=>
  by_cases h:n=0
  ·subst h;rw[zaz];rfl
  ·rw[zfl a h,valL,b _ (Nat.div_lt_self (by omega) (by omega))];exact Nat.mod_add_div n B
theorem zak {B:Nat} (b:2<=B) (n:Nat):zal B (zaa B n):=by
 induction n using Nat.strongRecOn with
 |_ n c=>
  by_cases h:n=0
  ·subst h;rw[zaz];exact zkm B
  ·rw[zfl b h];intro d a
   rcases List.mem_cons.1 a with rfl|a
   ·exact zP _ (by omega)
   ·exact c _ (Nat.div_lt_self (by omega) (by omega)) d a
theorem zqq {B:Nat} (g:2<=B):∀l:List Nat,zal B l->(l=[]\/∃i x,l=i++[x]/\x≠0)->l=zaa B (valL B l)
 |[],_,_=>by rw[valL,zaz]
 |a::r,hs,b=>by
  have ha:a<B:=hs a (by simp);have h:r=[]\/∃i x,r=i++[x]/\x≠0:=by
   rcases snoc_cases r with m|⟨d,e,rfl⟩
   ·exact .inl m
   ·refine .inr ⟨d,e,rfl,?_⟩
    rcases b with b|⟨i,x,f,c⟩
    ·simp at b
    ·have:(a::d)++[e]=i++[x]:=f
     have:=(List.append_inj' this rfl).2;simp at this;omega
  have o:=zqq g r (λx c=>hs x (by simp[c])) h;have n:valL B (a::r)≠0:=by
   rcases h with rfl|⟨d,e,rfl,p⟩
   ·rcases b with b|⟨i,x,f,c⟩
    ·cases b
    ·have:=(List.append_inj' (show([]:List Nat)++[a]=i++[x] from f) rfl).2
     simp at this;subst this;simp[valL];exact c
   ·simp only[valL,zcm,yZ]
    have:0<B*(B^d.length*e):=Nat.mul_pos (by omega) (Nat.mul_pos (Nat.pow_pos (by omega)) (by omega));omega
  rw[zfl g n];have j:valL B (a::r)%B=a:=by simp only[valL];rw[Nat.add_mul_mod_self_left,Nat.mod_eq_of_lt ha]
  have k:valL B (a::r)/B=valL B r:=by simp only[valL];rw[Nat.add_mul_div_left _ _ (by omega),Nat.div_eq_of_lt ha,Nat.zero_add]
  rw[j,k,<-o]
theorem zbu {B:Nat} (a:2<=B) {l:List Nat} (h:zal B l):zat l=zaa B (valL B l):=by
 have:=zqq a _ (zsn h) (zm9 l);rw[zv4] at this;exact this
theorem zg7 {B:Nat} (a:2<=B) (n:Nat):zaa B n=[]\/∃i x,zaa B n=i++[x]/\x≠0:=by
 have:zat (zaa B n)=zaa B n:=by rw[zbu a (zak a n),zam a]
 rw[<-this];exact zm9 _
theorem zbd {B:Nat} (b:2<=B) (n:Nat):zaa B n=[]↔n=0:=by
 constructor
 ·intro a;rw[<-zam b n,a];rfl
 ·rintro rfl;exact zaz B
theorem zgb {B:Nat} (a:2<=B) (n:Nat):n<B^(zaa B n).length:=by
 have:=zb6 (zak a n);rw[zam a] at this;exact this
theorem zmo {B:Nat} (b:2<=B) {n:Nat} (e:n≠0):B^((zaa B n).length-1)<=n:=by
 rcases zg7 b n with a|⟨d,f,a,g⟩
 ·exact absurd ((zbd b n).1 a) e
 ·have c:=zam b n
  rw[a] at c⊢;rw[zcm] at c;simp only[List.length_append,yA,yT,Nat.zero_add,Nat.add_sub_cancel];have:B^d.length*1<=B^d.length*f:=xB _ (by omega);omega
theorem zfv {B:Nat} (b:2<=B) {n k:Nat} (h:n<B^k):(zaa B n).length<=k:=by
 by_cases hn:n=0
 ·subst hn;rw[zaz];simp
 ·have:=zmo b hn
  have a:B^((zaa B n).length-1)<B^k:=Nat.lt_of_le_of_lt this h;have:=(Nat.pow_lt_pow_iff_right (by omega)).1 a;omega
theorem zc2 {B:Nat} (a:2<=B) {m n:Nat} (h:(zaa B m).length<(zaa B n).length):m<n:=by
 have d:=zgb a m;have c:n≠0:=λb=>by subst b;rw[zaz] at h;simp at h
 have e:=zmo a c;have f:B^(zaa B m).length<=B^((zaa B n).length-1):=yF (by omega) (by omega);omega
theorem zbo (l:List Nat) (k:Nat) (B:Nat):valL B (l.take (k+1))=valL B (l.take k)+B^k*l[k]?.getD 0:=by
 by_cases h:k<l.length
 ·rw[List.take_succ_eq_append_getElem h,zcm,zX,Nat.min_eq_left (by omega)]
  simp[h]
 ·rw[xC (by omega),xC (by omega),List.getElem?_eq_none (by omega)];simp
theorem zdu (l:List Nat) (k:Nat) (B:Nat) (h:k<l.length):valL B (l.drop k)=l[k]+B*valL B (l.drop (k+1)):=by
 rw[List.drop_eq_getElem_cons h];rfl
theorem zc7 (B:Nat) (l:List Nat) (k:Nat):valL B l=valL B (l.take k)+B^(l.take k).length*valL B (l.drop k):=by
 rw[<-zir,List.take_append_drop]
def zaq (f:Nat->Nat->Nat->Nat×Nat) (a b:List Nat):Nat->List Nat×Nat
 |0=>([],0)
 |k+1=>let r:=zaq f a b k;let s:=f (a[k]?.getD 0) (b[k]?.getD 0) r.2;(r.1++[s.1],s.2)
theorem zdk (f:Nat->Nat->Nat->Nat×Nat) (a b:List Nat):∀k,(zaq f a b k).1.length=k
 |0=>rfl
 |k+1=>by simp[zaq,zdk f a b k]
def za6 (B x y c:Nat):Nat×Nat:=((x+y+c)%B,(x+y+c)/B)
def za1 (B x y c:Nat):Nat×Nat:=if y+c<=x then(x-y-c,0) else(x+B-y-c,1)
theorem zna {B:Nat} (i:2<=B) {a b:List Nat} (ha:zal B a) (f:zal B b):∀k,
 zal B (zaq (za6 B) a b k).1/\(zaq (za6 B) a b k).2<=1/\
  valL B (zaq (za6 B) a b k).1+B^k*(zaq (za6 B) a b k).2=valL B (a.take k)+valL B (b.take k)
 |0=>⟨zkm B,by simp[zaq],by simp[zaq,valL]⟩
 |k+1=>by
  obtain⟨h,o,p⟩:=zna i ha f k;have q:=zaj ha (by omega) k;have r:=zaj f (by omega) k;have j:=zdk (za6 B) a b k;simp only[zaq];generalize zaq (za6 B) a b k=n at*
  obtain⟨s,c⟩:=n;rw[zbo,zbo];generalize a[k]?.getD 0=d at*
  generalize b[k]?.getD 0=e at*
  simp only[za6] at*
  refine⟨zg4 h (zP _ (by omega)),?_,?_⟩
  ·have:(d+e+c)/B<2:=Nat.div_lt_of_lt_mul (by omega)
   omega
  ·rw[zcm,j,yO]
   have g:=Nat.mod_add_div (d+e+c) B;generalize (d+e+c)%B=l at*
   generalize (d+e+c)/B=m at*
   have:B^k*l+B^k*B*m=B^k*(d+e+c):=by rw[<-g,yZ,Nat.mul_assoc]
   rw[yZ,yZ] at this;omega
theorem zov {B:Nat} (c:2<=B) {a b:List Nat} (ha:zal B a) (g:zal B b):
 zat (zaq (za6 B) a b (max a.length b.length+1)).1=zaa B (valL B a+valL B b):=by
 obtain⟨h,k,f⟩:=zna c ha g (max a.length b.length+1);rw[zbu c h];congr 1;rw[xC (by omega),xC (by omega)] at f;have i:=zb6 ha;have j:=zb6 g;have m:B^a.length<=B^max a.length b.length:=yF (by omega) (by omega);have n:B^b.length<=B^max a.length b.length:=yF (by omega) (by omega);generalize max a.length b.length=d at*
 generalize (zaq (za6 B) a b (d+1)).2=e at*
 rcases xD e with rfl|l
 ·omega
 ·have:e=1:=by omega
  subst this;rw[yO] at f;have:B^d*2<=B^d*B:=xB _ c;omega
theorem zlo {B:Nat} (i:2<=B) {a b:List Nat} (ha:zal B a) (g:zal B b):∀k,
 zal B (zaq (za1 B) a b k).1/\(zaq (za1 B) a b k).2<=1/\
  valL B (zaq (za1 B) a b k).1+valL B (b.take k)=valL B (a.take k)+B^k*(zaq (za1 B) a b k).2
 |0=>⟨zkm B,by simp[zaq],by simp[zaq,valL]⟩
 |k+1=>by
  obtain⟨f,l,m⟩:=zlo i ha g k;have n:=zaj ha (by omega) k;have o:=zaj g (by omega) k;have h:=zdk (za1 B) a b k;simp only[zaq];generalize zaq (za1 B) a b k=j at*
  obtain⟨p,c⟩:=j;rw[zbo,zbo];generalize a[k]?.getD 0=d at*
  generalize b[k]?.getD 0=e at*
  simp only[za1] at*
  split
  ·refine⟨zg4 f (by omega),by simp,?_⟩
   rw[zcm,h];simp only[Nat.mul_zero,Nat.add_zero];have:B^k*(d-e-c)+B^k*e+B^k*c=B^k*d:=by rw[<-yZ,<-yZ];congr 1;omega
   omega
  ·refine⟨zg4 f (by omega),by simp,?_⟩
   rw[zcm,h,yO];simp only[Nat.mul_one];have:B^k*(d+B-e-c)+B^k*e+B^k*c=B^k*d+B^k*B:=by rw[<-yZ,<-yZ,<-yZ];congr 1;omega
   omega
theorem znb {B:Nat} (e:2<=B) {a b:List Nat} (ha:zal B a) (i:zal B b) (h:valL B b<=valL B a) (k:Nat) (j:a.length<=k) (l:b.length<=k):
 zat (zaq (za1 B) a b k).1=zaa B (valL B a-valL B b):=by
 obtain⟨d,m,g⟩:=zlo e ha i k;rw[zbu e d];congr 1;have f:=zb6 d;rw[zdk] at f;rw[xC j,xC l] at g;generalize (zaq (za1 B) a b k).2=c at*
 rcases xD c with rfl|n
 ·omega
 ·have:c=1:=by omega
  subst this;omega
theorem zgc (B:Nat):∀(l:List Nat) (j v:Nat),j<l.length->valL B (l.set j v)+B^j*l[j]?.getD 0=valL B l+B^j*v
 |[],j,v,a=>by simp at a
 |d::r,0,v,_=>by simp[valL];omega
 |d::r,j+1,v,a=>by
  have c:=zgc B r j v (by simpa using a);simp only[List.set_cons_succ,valL,List.getElem?_cons_succ,yO];have b:B*(valL B (r.set j v)+B^j*r[j]?.getD 0)=B*(valL B r+B^j*v):=by rw[c]
  rw[yZ,yZ,<-Nat.mul_assoc,<-Nat.mul_assoc,yP B (B^j)] at b;omega
theorem zfm {B:Nat} {l:List Nat} (h:zal B l) (j:Nat) {v:Nat} (d:v<B):zal B (l.set j v):=by
 intro c b;rcases List.mem_or_eq_of_mem_set b with a|a
 ·exact h c a
 ·omega
def zay (B x:Nat) (b:List Nat) (i:Nat) (out:List Nat):Nat->List Nat×Nat
 |0=>(out,0)
 |k+1=>let r:=zay B x b i out k;let n:=r.1[i+k]?.getD 0+x*b[k]?.getD 0+r.2;(r.1.set (i+k) (n%B),n/B)
theorem zfw {B:Nat} (p:2<=B) {x:Nat} {b:List Nat} (s:x<B) (j:zal B b) (i:Nat) {a:List Nat} (l:zal B a):∀k,i+k<=a.length->
 (zay B x b i a k).1.length=a.length/\zal B (zay B x b i a k).1/\(zay B x b i a k).2<B/\
   valL B (zay B x b i a k).1+B^(i+k)*(zay B x b i a k).2=valL B a+B^i*(x*valL B (b.take k))
 |0,_=>⟨rfl,l,by simp[zay];omega,by simp[zay,valL]⟩
 |k+1,A=>by
  obtain⟨o,h,y,z⟩:=zfw p s j i l k (by omega);have D:=zaj j (by omega) k;simp only[zay];rw[zbo];generalize zay B x b i a k=u at*
  obtain⟨m,d⟩:=u;simp only at*
  have E:=zaj h (by omega) (i+k);have r:=λv=>zgc B m (i+k) v (by omega);generalize b[k]?.getD 0=c at*
  generalize m[i+k]?.getD 0=e at*
  have q:e+x*c+d<B*B:=by
   have:x*c<=(B-1)*(B-1):=Nat.mul_le_mul (by omega) (by omega);have g:(B-1)*(B-1)+2*(B-1)+1=B*B:=by
    obtain⟨f,rfl⟩:∃f,B=f+1:=⟨B-1,by omega⟩;simp only[Nat.add_sub_cancel];rw[yZ,Nat.add_mul];omega
   omega
  refine⟨by simp[o],zfm h _ (zP _ (by omega)),Nat.div_lt_of_lt_mul q,?_⟩;have g:=Nat.mod_add_div (e+x*c+d) B;have C:=r ((e+x*c+d)%B);generalize (e+x*c+d)%B=f at*
  generalize (e+x*c+d)/B=t at*
  have w:B^(i+k)*f+B^(i+k)*B*t=B^(i+k)*e+B^(i+k)*(x*c)+B^(i+k)*d:=by
   rw[<-yZ,<-yZ,<-g,yZ,Nat.mul_assoc]
  rw[show i+(k+1)=i+k+1 by omega,yO];have n:B^i*(x*(valL B (b.take k)+B^k*c))=B^i*(x*valL B (b.take k))+B^(i+k)*(x*c):=by
   rw[yZ,yZ,Nat.pow_add,Nat.mul_assoc (B^i) (B^k),<-Nat.mul_assoc x,yP x (B^k),Nat.mul_assoc]
  rw[n];omega
def zbp (B:Nat) (a b:List Nat):Nat->List Nat
 |0=>List.replicate (a.length+b.length+1) 0
 |i+1=>(zay B (a[i]?.getD 0) b i (zbp B a b i) (b.length+1)).1
theorem zgd (B n:Nat):valL B (List.replicate n 0)=0:=by
 induction n with
 |zero=>rfl
 |succ n a=>rw[List.replicate_succ,valL,a];simp
theorem zdf {B:Nat} (g:2<=B) {a b:List Nat} (ha:zal B a) (d:zal B b):∀i,i<=a.length->
 (zbp B a b i).length=a.length+b.length+1/\zal B (zbp B a b i)/\valL B (zbp B a b i)=valL B (a.take i)*valL B b
 |0,_=>⟨by simp[zbp],λc e=>by have:=List.eq_of_mem_replicate e;omega,by simp[zbp,zgd,valL]⟩
 |i+1,q=>by
  obtain⟨k,l,m⟩:=zdf g ha d i (by omega);have e:=zaj ha (by omega) i;obtain⟨r,j,w,s⟩:=zfw g e d i l (b.length+1) (by omega);refine⟨by rw[zbp,r,k],j,?_⟩;rw[zbp,zbo];rw[xC (by omega),m] at s;have t:=zb6 j;have h:=zb6 (zcu ha (i+1));rw[zbo,zX,Nat.min_eq_left q] at h
  have u:=zb6 d;generalize (zay B (a[i]?.getD 0) b i (zbp B a b i) (b.length+1)).1=v at*
  generalize (zay B (a[i]?.getD 0) b i (zbp B a b i) (b.length+1)).2=f at*
  generalize a[i]?.getD 0=c at*
  rw[Nat.add_mul,<-Nat.mul_assoc (B^i)] at*
  rcases xD f with rfl|p
  ·omega
  ·have n:valL B (a.take i)*valL B b+B^i*c*valL B b<B^(i+1)*B^b.length:=by
    rw[<-Nat.add_mul];have o:0<B^b.length:=Nat.pow_pos (by omega);have:(valL B (a.take i)+B^i*c)*valL B b<=(valL B (a.take i)+B^i*c)*B^b.length:=xB _ (by omega);have:(valL B (a.take i)+B^i*c)*B^b.length<B^(i+1)*B^b.length:=Nat.mul_lt_mul_of_pos_right h o;omega
   rw[<-Nat.pow_add,show i+1+b.length=i+(b.length+1) by omega] at n;have:B^(i+(b.length+1))*1<=B^(i+(b.length+1))*f:=xB _ p;omega
theorem zjp {B:Nat} (c:2<=B) {a b:List Nat} (ha:zal B a) (f:zal B b):zat (zbp B a b a.length)=zaa B (valL B a*valL B b):=by
 obtain⟨_,d,e⟩:=zdf c ha f a.length (zN _);rw[zbu c d,e,List.take_length]
theorem zem {B:Nat} {a b:List Nat} (ha:zal B a) (_:zal B b) (l:a.length=b.length) (k:Nat) (j:k<a.length)
 (f:a.drop (k+1)=b.drop (k+1)) (g:a[k]?.getD 0<b[k]?.getD 0):valL B a<valL B b:=by
 have c:=zc7 B a (k+1);have d:=zc7 B b (k+1);rw[f] at c;have h:(a.take (k+1)).length=k+1:=by simp;omega
 have i:(b.take (k+1)).length=k+1:=by simp;omega
 rw[h,zbo] at c;rw[i,zbo] at d;have e:=zb6 (zcu ha k);rw[zX,Nat.min_eq_left (by omega)] at e;have:B^k*(a[k]?.getD 0)+B^k<=B^k*(b[k]?.getD 0):=by rw[<-Nat.mul_succ];exact xB _ g
 omega
theorem zoa {a b:List Nat} (e:a.length=b.length) (h:∀i,i<a.length->a[i]?.getD 0=b[i]?.getD 0):a=b:=by
 apply List.ext_getElem e;intro i c d;have:=h i c;simpa [c,d] using this
theorem ztr {a b:List Nat} (d:a.length=b.length) (k:Nat) (h:∀i,k<i->i<a.length->a[i]?.getD 0=b[i]?.getD 0):a.drop (k+1)=b.drop (k+1):=by
 apply zoa (by simp[d]);intro i c;simp only[List.length_drop] at c;have:=h (k+1+i) (by omega) (by omega);simpa using this
def zdl (B d:Nat) (s:List Nat×Nat) (i x:Nat):List Nat×Nat:=(s.1.set i ((x+s.2*B)/d),(x+s.2*B)%d)
def za8 (B d:Nat) (l:List Nat):Nat->List Nat×Nat
 |0=>(List.replicate l.length 0,0)
 |k+1=>zdl B d (za8 B d l k) (l.length-1-k) (l[l.length-1-k]?.getD 0)
theorem zeo {B d:Nat} {l:List Nat} (c:0<d) (e:zal B l):∀k,k<=l.length->
 (za8 B d l k).1.length=l.length/\zal B (za8 B d l k).1/\(za8 B d l k).2<d/\
   valL B ((za8 B d l k).1.drop (l.length-k))*d+(za8 B d l k).2=valL B (l.drop (l.length-k))
 |0,_=>by
  refine⟨by simp[za8],λD f=>?_,c,?_⟩
  ·have z:=List.eq_of_mem_replicate f
   have r:l≠[]:=λj=>by subst j;simp[za8] at f
   obtain⟨w,t⟩:=List.exists_mem_of_ne_nil l r;have:=e w t;omega
  ·simp[za8,valL]
 |k+1,y=>by
  obtain⟨m,n,o,p⟩:=zeo c e k (by omega);have b:l.length-1-k<l.length:=by omega
  have f:l[l.length-1-k]?.getD 0<B:=by
   have:=e (l[l.length-1-k]) (List.getElem_mem b);simpa [b] using this
  have h:l.length-(k+1)=l.length-1-k:=by omega
  have i:l.length-1-k+1=l.length-k:=by omega
  simp only[za8,zdl];generalize za8 B d l k=u at*
  obtain⟨g,a⟩:=u;simp only at*
  have q:l[l.length-1-k]?.getD 0=l[l.length-1-k]:=by simp[b]
  have s:(l[l.length-1-k]?.getD 0+a*B)/d<B:=by
   apply Nat.div_lt_of_lt_mul;have:(a+1)*B<=d*B:=Nat.mul_le_mul_right _ o;rw[Nat.add_mul] at this;omega
  refine⟨by simp[m],zfm n _ s,zP _ c,?_⟩;rw[h,zdu l _ B b,zdu (g.set _ _) _ B (by simp;omega),i];rw[List.drop_set_of_lt (by omega),List.getElem_set_self,<-p];rw[q] at*
  have x:=Nat.mod_add_div (l[l.length-1-k]+a*B) d;generalize (l[l.length-1-k]+a*B)%d=A at*
  generalize (l[l.length-1-k]+a*B)/d=v at*
  generalize valL B (g.drop (l.length-k))=C at*
  rw[yZ,Nat.add_mul,Nat.mul_assoc,yP B a,yP v d];omega
theorem zjq {B d:Nat} (f:2<=B) {l:List Nat} (c:0<d) (g:zal B l):
 zat (za8 B d l l.length).1=zaa B (valL B l/d)/\(za8 B d l l.length).2=valL B l%d:=by
 obtain⟨i,e,a,b⟩:=zeo c g l.length (zN _);simp only[Nat.sub_self,List.drop_zero] at b;rw[zbu f e];generalize (za8 B d l l.length).2=j at*
 generalize valL B (za8 B d l l.length).1=h at*
 rw[<-b,yP h d];exact⟨by rw[Nat.mul_add_div c,Nat.div_eq_of_lt a,Nat.add_zero],by rw[Nat.mul_add_mod,Nat.mod_eq_of_lt a]⟩
theorem zpg {B:Nat} (a:2<=B) {x:Nat} (d:x<B):zat [x]=zaa B x:=by
 have b:zal B [x]:=by intro e c;rw[List.mem_singleton] at c;omega
 rw[zbu a b];simp[valL]
end Limb
section
theorem zzQ:(∀(a:Act) (v:Value),a.put zp v=a)/\(∀(a:Act) (i:Nat) (v:Value),a.put (zq i) v={a with tmps:=a.tmps.setIfInBounds i v})/\(∀(α:Type) (l:List α) (i:Nat) (a:α),l.toArray.setIfInBounds i a=(l.set i a).toArray)/\(∀(α:Type) (x:α) (l:List α) (a:α),(x::l).set 0 a=a::l)/\(∀(α:Type) (x:α) (l:List α) (i:Nat) (a:α),(x::l).set (i+1) a=x::l.set i a):=⟨λ_ _=>rfl,λ_ _ _=>rfl,λ_ _ _ _=>List.setIfInBounds_toArray ..,λ_ _ _ _=>rfl,λ_ _ _ _ _=>rfl⟩
theorem zzU {b:Bool} (h:zq undef=zq (Value.bool b)):False:=Value.noConfusion (Option.some.inj h)
open Go.RowKit
structure Wd (w:zA):Prop where
 tab:Lib.TabIs zF w "internal/strconv.uint64pow10" .u64 Lib.pow10Tab
 maxl:∃m,w.cell? ⟨5,0,zp⟩=zq (zj zm m)
theorem zbe {w:zA} {a:Addr} {v:Value} (h:w.cell? a=zq v):a.block<w.heap.size:=World.block_lt_of_cell? w a h
theorem zv5 {w:zA} {n:String} {b:Array Value} {g:Nat} (c:Tryz.prog.globalNamed n=zq g) (h:w.var? zF n=zq b):g<w.heap.size:=by
 rcases Nat.lt_or_ge g w.heap.size with a|a
 ·exact a
 ·simp[World.var?,c,Array.getElem?_eq_none a] at h
theorem Wd.below {w w':zA} (h:Wd w) (a:zB w.heap.size w w'):Wd w':=by
 obtain⟨d,e,c⟩:=h;have b:Tryz.prog.globalNamed "internal/strconv.uint64pow10" =zq 1:=by kernel_rfl
 exact⟨var?_below a b (zv5 b d) d,e,by rw[a.cell (zbe c)];exact c⟩
theorem zum {w w':zA} (h:∃k os,w'=Go.Sort.grow (w.drewN k) os):zB w.heap.size w w':=by
 obtain⟨k,os,rfl⟩:=h
 exact⟨rfl,rfl,rfl,by simp[Go.Sort.grow],λb a=>by
  show((w.drewN k).heap++os)[b]? =_;rw[Array.getElem?_append_left (by exact a)];rfl⟩
theorem zb3 (n:Int) (b: -9223372036854775808<=n) (c:n<=9223372036854775807) (w:zA) (hw:Wd w):
 zC zF 47 #[zj zm n] w λe w'=>e=zo (z8 ⟨(Lib.itoa n).toArray⟩)/\zB w.heap.size w w':=
 (Tryz.strconv_Itoa n b c w hw.tab).mono λ_ _ a=>⟨a.1,zum a.2⟩
theorem znc (x:Int) (h:(Lib.itoa x).length<=18) (w:zA):
 zC zF 230 #[z8 ⟨(Lib.itoa x).toArray⟩] w λe w'=>e=zo (ze #[zj zm x,.nilIface])/\zB w.heap.size w w':=
 (Tryz.strconv_Atoi ⟨(Lib.itoa x).toArray⟩ x h (Str.zv2 x) w).mono λ_ _ h=>⟨h.1,by obtain⟨t,e⟩:=h.2;rw[e];exact Lib.bytesWorld_below _ _ _⟩
abbrev St (l:List UInt8):Value:=z8 ⟨l.toArray⟩
def Sl (w:zA) (v:Value) (xs:List Value):Prop:=
 ∃p cap,v=z7 p xs.length cap/\xs.length<=cap/\∀i x,xs[i]? =zq x->∃b off,p=zq ⟨b,off,zp⟩/\w.cell? ⟨b,off+i,zp⟩=zq x
theorem Sl.cases {w:zA} {v:Value} {xs:List Value} (h:Sl w v xs):(xs=[]/\∃p cap,v=z7 p 0 cap)\/
 (xs≠[]/\∃b off cap,v=z7 (zq ⟨b,off,zp⟩) xs.length cap/\xs.length<=cap/\b<w.heap.size/\∀i x,xs[i]? =zq x->w.cell? ⟨b,off+i,zp⟩=zq x):=by
 obtain⟨p,cap,rfl,f,a⟩:=h
 cases xs with
 |nil=>exact .inl ⟨rfl,p,cap,rfl⟩
 |cons x m=>
  obtain⟨b,off,rfl,e⟩:=a 0 x rfl;refine .inr ⟨by simp,b,off,cap,rfl,f,zbe e,λi j g=>?_⟩;obtain⟨k,l,c,d⟩:=a i j g;cases c;exact d
theorem Sl.mk {w:zA} {b off cap:Nat} {xs:List Value} (d:xs.length<=cap) (c:∀i x,xs[i]? =zq x->w.cell? ⟨b,off+i,zp⟩=zq x):Sl w (z7 (zq ⟨b,off,zp⟩) xs.length cap) xs:=
 ⟨_,_,rfl,d,λi x a=>⟨b,off,rfl,c i x a⟩⟩
theorem Sl.below {w w':zA} {v:Value} {xs:List Value} (h:Sl w v xs) (f:zB w.heap.size w w'):Sl w' v xs:=by
 obtain⟨m,c,d,i,g⟩:=h;refine⟨m,c,d,i,λk n j=>?_⟩;obtain⟨b,l,e,a⟩:=g k n j;exact⟨b,l,e,by rw[f.cell (zbe a)];exact a⟩
def zql (v:Value) (k:Nat):Value:=match v with
 | z7 p _ cap=>z7 p k cap
 |x=>x
theorem Sl.take {w:zA} {v:Value} {xs:List Value} (h:Sl w v xs) {k:Nat} (d:k<=xs.length):Sl w (zql v k) (xs.take k):=by
 obtain⟨f,b,rfl,i,c⟩:=h;refine⟨f,b,?_,by rw[zX];omega,λe g a=>?_⟩
 ·simp[zql,Nat.min_eq_left d]
 ·rw[List.getElem?_take] at a
  split at a
  ·exact c e g a
  ·cases a
theorem Sl.nil (w:zA):Sl w (z7 zp 0 0) []:=⟨zp,0,rfl,zN _,λi x h=>by simp at h⟩
abbrev I (x:Nat):Value:=zj zm x
theorem Sl.of_own {w:zA} {base:Nat} {e:TypeId} {v:Value} {n:Nat} {xs:List Value} (h:w.ownsRow base e 1 v n xs):Sl w v xs:=by
 obtain⟨b,h⟩:=h;rw[Nat.mul_one] at b h;rcases h with⟨rfl,rfl⟩|⟨d,c,j,rfl,_,f,g,_,k,i⟩
 ·have:=List.length_eq_zero_iff.1 b
  subst this;exact Sl.nil w
 ·subst b
  refine⟨_,c,rfl,g,λl m a=>⟨d,0,rfl,?_⟩⟩;rw[<-i,List.getElem?_take] at a;split at a
  ·simp only[World.cell?,f,Nat.zero_add]
   simpa using a
  ·cases a
def Row (w:zA) (g cap:Nat) (l:List Nat):Prop:=
 ∃cur,w.heap[g]? =zq (.cells cur 3 (0,0))/\l.length<=cap/\cap<=maxLen/\cur.size=cap/\cur.toList.take l.length=l.map I
theorem Row.cell {w:zA} {g cap:Nat} {l:List Nat} (h:Row w g cap l) {j x:Nat} (d:l[j]? =zq x):w.cell? ⟨g,j,zp⟩=zq (I x):=by
 obtain⟨e,b,_,_,_,c⟩:=h;have a:(l.map I)[j]? =zq (I x):=by simp[d]
 rw[<-c,List.getElem?_take] at a;split at a
 ·simp only[World.cell?,b]
  simpa using a
 ·cases a
theorem Row.frozen {w:zA} {g cap:Nat} {l:List Nat} (h:Row w g cap l) (j:Nat):w.frozen? ⟨g,j,zp⟩=zu:=by
 obtain⟨b,a,_⟩:=h;simp[World.frozen?,a]
theorem Row.lt {w:zA} {g cap:Nat} {l:List Nat} (h:Row w g cap l):g<w.heap.size:=by
 obtain⟨b,a,_⟩:=h;exact(Array.getElem?_eq_some_iff.1 a).1
theorem Row.below {w w':zA} {B g cap:Nat} {l:List Nat} (h:Row w g cap l) (b:zB B w w') (c:g<B):Row w' g cap l:=by
 obtain⟨a,d,h⟩:=h;exact⟨a,by rw[b.block g c];exact d,h⟩
theorem Row.set {w:zA} {g cap:Nat} {l:List Nat} (h:Row w g cap l) (j v:Nat):Row (w.setCell ⟨g,j,zp⟩ (I v)) g cap (l.set j v):=by
 obtain⟨a,f,b,c,d,e⟩:=h;refine⟨a.setIfInBounds j (I v),?_,by simpa using b,c,by simpa using d,?_⟩
 ·simp[World.setCell,Array.getElem?_modify,f]
 ·rw[List.length_set,Array.toList_setIfInBounds,List.take_set,e,List.map_set]
theorem Row.sl {w:zA} {g cap:Nat} {l:List Nat} (h:Row w g cap l):Sl w (z7 (zq ⟨g,0,zp⟩) l.length cap) (l.map I):=by
 have d:=h;obtain⟨f,i,c,_⟩:=h
 have:=Sl.mk (w:=w) (b:=g) (off:=0) (cap:=cap) (xs:=l.map I) (by simpa using c) (λe j a=>by
  rw[List.getElem?_map] at a
  cases hl:l[e]? with
  |none=>rw[hl] at a;cases a
  |some k=>rw[hl] at a;cases a;rw[Nat.zero_add];exact d.cell hl)
 rwa [zV] at this
theorem Row.own {w:zA} {g cap base:Nat} {l:List Nat} (h:Row w g cap l) (e:base<=g):w.ownsRow base 3 1 (z7 (zq ⟨g,0,zp⟩) l.length cap) l.length (l.map I):=by
 obtain⟨a,f,b,c,i,d⟩:=h;exact⟨by simp,.inr ⟨g,cap,a,rfl,e,f,b,c,by omega,by rw[Nat.mul_one];exact d⟩⟩
theorem Row.of_own {w:zA} {g cap base n:Nat} {l:List Nat} (h:w.ownsRow base 3 1 (z7 (zq ⟨g,0,zp⟩) n cap) n (l.map I)):Row w g cap l/\l.length=n:=by
 obtain⟨i,h⟩:=h;have a:l.length=n:=by simpa using i
 rcases h with⟨h,_⟩|⟨k,j,b,c,p,f,m,d,o,e⟩
 ·cases h
 ·cases c
  exact⟨⟨b,f,by omega,d,by omega,by rw[a];simpa using e⟩,a⟩
theorem zau (w:zA) {b b':Nat} (o c:Nat) (u:Value) (h:b≠b'):(w.setCell ⟨b',c,zp⟩ u).cell? ⟨b,o,zp⟩=w.cell? ⟨b,o,zp⟩:=
 World.cell?_of_block (a:=⟨b,o,zp⟩) (Below.heap_setCell w ⟨b',c,zp⟩ u b h)
theorem za9 {w:zA} {b o:Nat} {u v:Value} (h:w.cell? ⟨b,o,zp⟩=zq v):(w.setCell ⟨b,o,zp⟩ u).cell? ⟨b,o,zp⟩=zq u:=
 World.cell?_setCell_same' _ _ _ (by rw[h];rfl)
theorem zob {w:zA} {b o:Nat} {v:Value} (h:w.cell? ⟨b,o,zp⟩=zq v) (x:Obj):(w.alloc x).cell? ⟨b,o,zp⟩=zq v:=by
 rw[World.cell?_of_block (a:=⟨b,o,zp⟩) (Below.heap_alloc w x b (zbe h))];exact h
theorem zow {w:zA} {b o:Nat} {v:Value} (h:w.cell? ⟨b,o,zp⟩=zq v) (x:Obj) (c:w.frozen? ⟨b,o,zp⟩=zu):(w.alloc x).frozen? ⟨b,o,zp⟩=zu:=by
 rw[World.frozen?_of_block (a:=⟨b,o,zp⟩) (Below.heap_alloc w x b (zbe h))];exact c
theorem getD_some {l:List Nat} {i:Nat} (h:i<l.length):l[i]? =zq (l[i]?.getD 0):=by simp[h]
def zqm:Value->Nat
 | z7 _ n _=>n
 |_=>0
theorem zep (w:zA) (x:Value) (t:TypeId):∀(j:Nat) (u:Value),[x][j]? =zq u->(w.alloc (.cells #[x] t)).cell? ((⟨w.heap.size,0,zp⟩:Addr).add j)=zq u:=by
 intro j u a
 match j,a with
 |0,a=>simp at a;subst a;simp[Addr.add]
theorem zfn (x:Int):∀u∈[zj zm x],u.oneCell'=zt:=by intro u a;simp at a;subst a;rfl
theorem zi5 {P:Program} {f:FuncId} {args:Array Value} {w:zA} {v:Value} (h:zC P f args w λe w'=>e=zo v/\w=w'):zC P f args w λe w'=>e=zo v/\w'=w:=
 h.mono λ_ _ h=>⟨h.1,h.2.symm⟩
theorem Sl.at {w:zA} {p:Option Addr} {cap:Nat} {l:List Nat} {i:Nat} (h:Sl w (z7 p l.length cap) (l.map I)) (f:i<l.length):
 ∃b off,p=zq ⟨b,off,zp⟩/\b<w.heap.size/\l.length<=cap/\w.cell? ⟨b,off+i,zp⟩=zq (I (l[i]?.getD 0)):=by
 obtain⟨j,g,a,d,e⟩:=h;simp only[zV] at a d;cases a;obtain⟨b,off,a,c⟩:=e i (I (l[i]?.getD 0)) (by simp[f]);exact⟨b,off,a,zbe c,d,c⟩
theorem zv6 {a b:Value} (h:a=b):Ending.returned a=Ending.returned b:=by rw[h]
abbrev qJ (f:FuncId) (a:Array Value) (w:zA) (v:Value):Prop:=zC zF f a w λe w'=>e=zo v/\RowKit.Below w.heap.size w w'
abbrev qK (f:FuncId) (a:Array Value) (v:Value):Prop:=∀W:zA,Wd W->qJ f a W v
theorem qT {w a b:zA} (h:Hid (zB w.heap.size w a)) (k:zB a.heap.size a b):Hid (zB w.heap.size w b):=hid (h.trans (k.mono h.size))
abbrev qL (w W:zA):Prop:=zB w.heap.size w W
theorem zzX {α:Sort _} (a:α):∃x,x=a:=⟨_,rfl⟩
theorem zzM {P:Go.Program} {f:Go.FuncId} {a:Array Go.Value} {w:Go.World} {v:Go.Value} {R:Go.World->Prop} {Q:Go.Ending->Go.World->Prop} (h:Go.Calls P f a w λe w'=>e=zo v/\R w') (k:∀w',R w'->Q (zo v) w'):Go.Calls P f a w Q:=h.mono λ_ w' ⟨e,h⟩=>e▸k w' h
end
section
open Go.RowKit Lib Str Limb
theorem zjr (v:Value) (l:List Nat) (w:zA) (h:Sl w v (l.map I)) (z:l.length<=3000):
 zC zF 232 #[v] w λe w'=>e=zo (zql v (zat l).length)/\w=w':=by
 rcases h.cases with⟨k,u,i,rfl⟩|⟨k,q,t,i,rfl,r,x,m⟩
 ·have:l=[]:=by simpa using k
  subst this;go_enter Tryz.func232,Tryz.ntmps232;go_wp2;go_loop [0] (λf=>f=z7 u 0 i) (λ_=>0)
  case atStart=>rfl
  case round=>
   subst hrel;go_wp2;go_ret;exact⟨rfl,rfl⟩
 ·rw[zV] at r⊢
  have p:=hid m;clear m h;go_enter Tryz.func232,Tryz.ntmps232;go_wp2;go_loop [0] (λf=>∃b:Nat,b<=l.length/\f=z7 (zq ⟨q,t,zp⟩) b i/\Hid (zat (l.take b)=zat l)) (λf=>zqm f)
  case atStart=>exact⟨l.length,zN _,rfl,by show zat (l.take l.length)=_;rw[List.take_length]⟩
  case round=>
   obtain⟨b,y,rfl,d⟩:=hrel;rcases xD b with rfl|A
   ·have e:(zat l).length=0:=by rw[<-d.out];simp[zou]
    have o:=hid e;clear e;go_wp2;go_ret;exact⟨by rw[o.out];rfl,rfl⟩
   ·obtain⟨a,rfl⟩:∃a,b=a+1:=⟨b-1,by omega⟩
    have j:a<l.length:=by omega
    have n:l[a]? =zq l[a]:=by simp[j]
    have s:=p a (I l[a]) (by simp[j]);have c:zat (l.take (a+1))=zat (l.take a++[l[a]]):=by rw[List.take_succ_eq_append_getElem j]
    by_cases hz:l[a]=0
    ·rw[hz] at s c
     have g:Hid (zat (l.take a)=zat l):=by rw[<-d.out,c,zew];rfl
     clear c n hz d;go_wp2;go_round
     case rel=>exact⟨a,by omega,rfl,g⟩
     case measure=>simp[zqm]
    ·have g:Hid ((zat l).length=a+1):=by
      rw[<-d.out,c,zhs _ hz];show(l.take a++[l[a]]).length=a+1;simp;omega
     have B:(((l[a]:Nat):Int)==0)=zu:=by rw[beq_eq_false_iff_ne];omega
     clear c n d;go_wp2;go_ret;exact⟨by rw[g.out];rfl,rfl⟩
theorem zi6 (p:Option Addr) (n cap:Nat) (l:List Nat) (w:zA) (h:Sl w (z7 p n cap) (l.map I)) (a:l.length<=3000):
 zC zF 232 #[z7 p n cap] w λe w'=>e=zo (z7 p (zat l).length cap)/\w=w':=zjr _ l w h a
theorem zfh (v:Value) (l:List Nat) (i:Nat) (w:zA) (h:Sl w v (l.map I)) (m:l.length<=3000):
 zC zF 234 #[v,I i] w λe w'=>e=zo (I (l[i]?.getD 0))/\w=w':=by
 by_cases hi:i<l.length
 ·rcases h.cases with⟨b,f,a,rfl⟩|⟨b,g,n,a,rfl,d,j,c⟩
  ·have:l=[]:=by simpa using b
   subst this;simp at hi
  ·have k:=c i (I (l[i]?.getD 0)) (by simp[hi])
   clear c h;rw[zV];generalize l[i]?.getD 0=o at*
   go_enter Tryz.func234,Tryz.ntmps234;go_wp2;go_ret;exact⟨rfl,rfl⟩
 ·have:l[i]?.getD 0=0:=by rw[List.getElem?_eq_none (by omega)];rfl
  rw[this];obtain⟨f,a,rfl,d,_⟩:=h;rw[zV];go_enter Tryz.func234,Tryz.ntmps234;go_wp2;go_ret;exact⟨rfl,rfl⟩
def B9:Nat:=1000000000
theorem zdv:(Tryz.prog.info? 3).map (λi=>(i.zero,i.size,i.bytes))=zq (zq (zj zm 0),1,8):=by kernel_rfl
def zht (w:zA) (l:List Nat) (e:Ending) (w':zA):Prop:=
 ∃v,e=zo v/\w'.ownsRow w.heap.size 3 1 v l.length (l.map I)/\zB w.heap.size w w'
theorem zeq {w:zA} {base k:Nat} {v:Value} {o:List Nat} (h:w.ownsRow base 3 1 v k (o.map I)) (g:o.length=k):
 w.ownsRow base 3 1 (zql v (zat o).length) (zat o).length ((zat o).map I):=by
 have n:=zkn o;obtain⟨l,h⟩:=h;refine⟨by simp,?_⟩;rcases h with⟨rfl,rfl⟩|⟨d,a,b,rfl,e,f,m,i,j,c⟩
 ·have:=List.length_eq_zero_iff.1 g
  subst this;exact .inl ⟨rfl,rfl⟩
 ·refine .inr ⟨d,a,b,rfl,e,f,by omega,i,j,?_⟩
  conv=>rhs;rw[zjo]
  rw[List.map_take,<-c,List.take_take];congr 1;omega
theorem zym (x y c:Nat) (b:x<B9) (hy:y<B9) (a:c<=1) (w:zA):
 zC zF 236 #[I x,I y,I c] w λe w'=>e=zo (ze #[I (za6 B9 x y c).1,I (za6 B9 x y c).2])/\w=w':=by
 unfold B9 at*
 go_enter Tryz.func236,Tryz.ntmps236;go_wp2;go_ret2;exact⟨by simp[za6],rfl⟩
theorem zv7 (x y c:Nat) (g:x<B9) (hy:y<B9) (f:c<=1) (w:zA):
 zC zF 237 #[I x,I y,I c] w λe w'=>e=zo (ze #[I (za1 B9 x y c).1,I (za1 B9 x y c).2])/\w=w':=by
 unfold B9 at*
 by_cases h:y+c<=x
 ·have d:(0:Int)<=(x:Int)-y-c:=by omega
  have e:za1 1000000000 x y c=(x-y-c,0):=by unfold za1;rw[if_pos h]
  have a:((x-y-c:Nat):Int)=(x:Int)-y-c:=by omega
  rw[e];have b:=hid a;clear a e;go_enter Tryz.func237,Tryz.ntmps237;go_wp2;go_ret2;exact⟨by show Ending.returned (ze #[zj zm _,zj zm _])=Ending.returned (ze #[zj zm _,zj zm _]);rw[b.out];rfl,rfl⟩
 ·have d:(x:Int)-y-c<0:=by omega
  have e:za1 1000000000 x y c=(x+1000000000-y-c,1):=by unfold za1;rw[if_neg h]
  have a:((x+1000000000-y-c:Nat):Int)=(x:Int)-y-c+1000000000:=by omega
  rw[e];have b:=hid a;clear a e;go_enter Tryz.func237,Tryz.ntmps237;go_wp2;go_ret2;exact⟨by show Ending.returned (ze #[zj zm _,zj zm _])=Ending.returned (ze #[zj zm _,zj zm _]);rw[b.out];rfl,rfl⟩
theorem zqs (D E:Value) (a b:List Nat) (w:zA) (ha:Sl w D (a.map I)) (t:Sl w E (b.map I)) (A:zal B9 a) (C:zal B9 b) (a8:a.length<=1000) (a9:b.length<=1000):
 zC zF 235 #[D,E,.func (.func 236) #[] #[]] w (zht w ((zat (zaq (za6 B9) a b (max a.length b.length+1)).1))):=by
 obtain⟨W,O,T,U,V⟩:=info_parts zdv;have s:=ha;have u:=t;obtain⟨aa,a4,rfl,K,M⟩:=ha;obtain⟨ab,a5,rfl,L,N⟩:=t;have n:=hid s;clear s M K;have F:=hid u;clear u N L;have q:=hid A;clear A;have r:=hid C;clear C;simp only[zV] at*
 obtain⟨e,j⟩:=zzX (max a.length b.length);have a2:=hid j;have P:max (a.length:Int) (b.length:Int)=(e:Int):=by omega
 have a6:e<=1000:=by omega
 rw[<-j];clear j;go_enter Tryz.func235,Tryz.ntmps235;go_wp2;go_loopw [7,8,18] (λa1 i m wr=>∃c:Nat,c<=e+1/\m=zj zm c/\i=I (zaq (za6 B9) a b c).2/\wr.ownsRow w.heap.size 3 1 a1 c ((zaq (za6 B9) a b c).1.map I)/\zB w.heap.size w wr)
  (λ_ _ m _=>e+1-(zL m).toNat)
 case atStart=>exact⟨0,zR _,rfl,rfl,World.ownsRow_nil _ _ _ _,zM _ _⟩
 case round=>
  obtain⟨c,a7,rfl,rfl,f,d⟩:=hrel;clear P;by_cases hlt:c<e+1
  ·obtain⟨X,Y,Z⟩:=zna (B:=B9) (by decide) q r c
   have R:=zaj q (by decide) c;have S:=zaj r (by decide) c;have y:zaq (za6 B9) a b (c+1)=((zaq (za6 B9) a b c).1++[(za6 B9 (a[c]?.getD 0) (b[c]?.getD 0) (zaq (za6 B9) a b c).2).1],(za6 B9 (a[c]?.getD 0) (b[c]?.getD 0) (zaq (za6 B9) a b c).2).2):=rfl;have p:=hid y;clear y X Z;generalize (zaq (za6 B9) a b c).1=z at*
   generalize (zaq (za6 B9) a b c).2=i at*
   have a3:=n.below d;go_wp21;refine(zfh _ a c wr (n.below d) (by omega)).mono ?_;rintro g h ⟨rfl,rfl⟩;go_wp21;refine(zfh _ b c wr (F.below d) (by omega)).mono ?_;rintro g h ⟨rfl,rfl⟩;go_wp21;refine(zym (a[c]?.getD 0) (b[c]?.getD 0) i R S Y wr).mono ?_;rintro g h ⟨rfl,rfl⟩;go_wp2_with (at_builtin;refine wpList_append_own _ rfl _ _ 74 rfl w.heap.size 3 W (zj zm 0) 1 8 Tryz.underlying74 O T U V rfl (by decide) _ _ _ rfl (f.alloc _) ⟨wr.heap.size,0,zp⟩ 1 1 [I (za6 B9 (a[c]?.getD 0) (b[c]?.getD 0) i).1] rfl rfl (zep _ _ _) (zfn _) (by unfold maxLen;omega) (by omega) (by have:=d.size;simp;omega) ?_);intro ac h Q v _;have J:qL w h:=(d.alloc d.size _).grown v (by have:=d.size;simp;omega) (λa0 g=>(f.lt a0 g).1);clear v d f;go_wp2;go_roundw
   case rel=>exact⟨c+1,by omega,by go_num,by rw[p.out],by rw[p.out];simpa using Q,J⟩
   case measure=>simp[zL];omega
  ·have x:c=e+1:=by omega
   have k:(zaq (za6 B9) a b c).1.length=c:=zdk _ _ _ _;have G:=hid x;clear x;obtain⟨z,l⟩:=zzX ((zaq (za6 B9) a b c).1);rw[<-l] at f k;have H:=hid l;clear l;have o:=hid k;clear k;go_wp21;refine(zjr _ z wr (Sl.of_own f) (by rw[o.out];omega)).mono ?_;rintro g h ⟨rfl,rfl⟩;go_wp21;go_ret;rw[<-G.out,<-H.out];exact⟨_,rfl,zeq f o.out,d⟩
theorem zpr (D E:Value) (a b:List Nat) (w:zA) (ha:Sl w D (a.map I)) (t:Sl w E (b.map I)) (A:zal B9 a) (C:zal B9 b) (a8:a.length<=1000) (a9:b.length<=1000):
 zC zF 235 #[D,E,.func (.func 237) #[] #[]] w (zht w ((zat (zaq (za1 B9) a b (max a.length b.length+1)).1))):=by
 obtain⟨W,O,T,U,V⟩:=info_parts zdv;have s:=ha;have u:=t;obtain⟨aa,a4,rfl,K,M⟩:=ha;obtain⟨ab,a5,rfl,L,N⟩:=t;have n:=hid s;clear s M K;have F:=hid u;clear u N L;have q:=hid A;clear A;have r:=hid C;clear C;simp only[zV] at*
 obtain⟨e,j⟩:=zzX (max a.length b.length);have a2:=hid j;have P:max (a.length:Int) (b.length:Int)=(e:Int):=by omega
 have a6:e<=1000:=by omega
 rw[<-j];clear j;go_enter Tryz.func235,Tryz.ntmps235;go_wp2;go_loopw [7,8,18] (λa1 i m wr=>∃c:Nat,c<=e+1/\m=zj zm c/\i=I (zaq (za1 B9) a b c).2/\wr.ownsRow w.heap.size 3 1 a1 c ((zaq (za1 B9) a b c).1.map I)/\zB w.heap.size w wr)
  (λ_ _ m _=>e+1-(zL m).toNat)
 case atStart=>exact⟨0,zR _,rfl,rfl,World.ownsRow_nil _ _ _ _,zM _ _⟩
 case round=>
  obtain⟨c,a7,rfl,rfl,f,d⟩:=hrel;clear P;by_cases hlt:c<e+1
  ·obtain⟨X,Y,Z⟩:=zlo (B:=B9) (by decide) q r c
   have R:=zaj q (by decide) c;have S:=zaj r (by decide) c;have y:zaq (za1 B9) a b (c+1)=((zaq (za1 B9) a b c).1++[(za1 B9 (a[c]?.getD 0) (b[c]?.getD 0) (zaq (za1 B9) a b c).2).1],(za1 B9 (a[c]?.getD 0) (b[c]?.getD 0) (zaq (za1 B9) a b c).2).2):=rfl;have p:=hid y;clear y X Z;generalize (zaq (za1 B9) a b c).1=z at*
   generalize (zaq (za1 B9) a b c).2=i at*
   have a3:=n.below d;go_wp21;refine(zfh _ a c wr (n.below d) (by omega)).mono ?_;rintro g h ⟨rfl,rfl⟩;go_wp21;refine(zfh _ b c wr (F.below d) (by omega)).mono ?_;rintro g h ⟨rfl,rfl⟩;go_wp21;refine(zv7 (a[c]?.getD 0) (b[c]?.getD 0) i R S Y wr).mono ?_;rintro g h ⟨rfl,rfl⟩;go_wp2_with (at_builtin;refine wpList_append_own _ rfl _ _ 74 rfl w.heap.size 3 W (zj zm 0) 1 8 Tryz.underlying74 O T U V rfl (by decide) _ _ _ rfl (f.alloc _) ⟨wr.heap.size,0,zp⟩ 1 1 [I (za1 B9 (a[c]?.getD 0) (b[c]?.getD 0) i).1] rfl rfl (zep _ _ _) (zfn _) (by unfold maxLen;omega) (by omega) (by have:=d.size;simp;omega) ?_);intro ac h Q v _;have J:qL w h:=(d.alloc d.size _).grown v (by have:=d.size;simp;omega) (λa0 g=>(f.lt a0 g).1);clear v d f;go_wp2;go_roundw
   case rel=>exact⟨c+1,by omega,by go_num,by rw[p.out],by rw[p.out];simpa using Q,J⟩
   case measure=>simp[zL];omega
  ·have x:c=e+1:=by omega
   have k:(zaq (za1 B9) a b c).1.length=c:=zdk _ _ _ _;have G:=hid x;clear x;obtain⟨z,l⟩:=zzX ((zaq (za1 B9) a b c).1);rw[<-l] at f k;have H:=hid l;clear l;have o:=hid k;clear k;go_wp21;refine(zjr _ z wr (Sl.of_own f) (by rw[o.out];omega)).mono ?_;rintro g h ⟨rfl,rfl⟩;go_wp21;go_ret;rw[<-G.out,<-H.out];exact⟨_,rfl,zeq f o.out,d⟩
theorem zox (Z a0:Value) (a b:List Nat) (w:zA) (ha:Sl w Z (a.map I)) (K:Sl w a0 (b.map I)) (X:zal B9 a) (Y:zal B9 b) (bd:a.length<=1000) (be:b.length<=1000):
 zC zF 191 #[Z,a0] w (zht w (zat (zbp B9 a b a.length))):=by
 obtain⟨aq,al,an,ao,ap⟩:=info_parts zdv;have J:=ha;have L:=K;obtain⟨bg,a',rfl,ag,ai⟩:=ha;obtain⟨ar,a9,rfl,ah,aj⟩:=K;have a1:=hid J;clear J ai ag;have a2:=hid L;clear L aj ah;have u:=hid X;clear X;have r:=hid Y;clear Y;simp only[zV] at*
 go_enter Tryz.func191,Tryz.ntmps191;go_wp2_with (at_make;refine wpList_make_full _ rfl _ _ 74 rfl w.heap.size 3 aq (zj zm 0) 1 Tryz.underlying74 al an ao zm zm _ _ (a.length+b.length+1) rfl rfl (by omega) (by omega) (by rw[ap];omega) (by unfold maxLen;omega) (zN _) ?_);intro av A M;rw[toList_madeCells_one,<-show(List.replicate (a.length+b.length+1) 0).map I=List.replicate (a.length+b.length+1) (zj zm 0) by simp] at A;obtain⟨f, -⟩:=Row.of_own A;have H:qL w av:=(zM _ _).grown M (zN _) (λ_ s=>by cases s);clear A M;obtain⟨k,x⟩:=zzX (a.length+b.length+1);have af:(a.length:Int)+b.length+1=k:=by omega
 rw[<-x] at f⊢;have o:=hid x;clear x;obtain⟨v,y⟩:=zzX w.heap.size;rw[<-y] at f⊢;have F:=hid y;clear y;clear af;go_wp2;go_loopw [20] (λd wr=>∃c:Nat,c<=a.length/\d=zj zm c/\Row wr v k (zbp B9 a b c)/\zB w.heap.size w wr)
  (λd _=>a.length-(zL d).toNat)
 case atStart=>exact⟨0,zR _,rfl,by rw[zbp,<-o.out];exact f,H⟩
 case round=>
  clear f H;obtain⟨d,N,rfl,f,j⟩:=hrel;by_cases hlt:d<a.length
  ·obtain⟨az,bf,rfl,b1,b3,ak⟩:=(a1.below j).at hlt
   have P:=zaj u (by decide) d;obtain⟨l,E, -⟩:=zdf (B:=B9) (by decide) u r d N;have q:zbp B9 a b (d+1)=(zay B9 (a[d]?.getD 0) b d (zbp B9 a b d) (b.length+1)).1:=rfl;rw[<-o.out] at l;have a5:=hid q;clear q;generalize zbp B9 a b d=g at*
   generalize a[d]?.getD 0=e at*
   have n:=hid l;clear l;have a7:=hid E;clear E;have am:e<1000000000:=P;clear P;go_wp2;obtain⟨bi,O⟩:=zzX (wr:zA);have ax:=hid O;clear O;go_loopw [8,28] (λi D wr=>∃c:Nat,c<=b.length+1/\D=zj zm c/\i=I (zay B9 e b d g c).2/\Row wr v k (zay B9 e b d g c).1/\zB w.heap.size w wr)
    (λ_ D _=>b.length+1-(zL D).toNat)
   case atStart=>exact⟨0,zR _,rfl,rfl,f,j⟩
   case round=>
    clear f j ak;obtain⟨c,b8,rfl,rfl,f,j⟩:=hrel;have a3:k=a.length+b.length+1:=o.out;by_cases hlk:c<b.length+1
    ·obtain⟨U,V,W, -⟩:=zfw (B:=B9) (by decide) (show e<B9 from am) r d a7 c (by rw[n.out];omega)
     have R:=zaj r (by decide) c;have q:zay B9 e b d g (c+1)=((zay B9 e b d g c).1.set (d+c) (((zay B9 e b d g c).1[d+c]?.getD 0+e*b[c]?.getD 0+(zay B9 e b d g c).2)%B9),((zay B9 e b d g c).1[d+c]?.getD 0+e*b[c]?.getD 0+(zay B9 e b d g c).2)/B9):=rfl;have G:=hid q;clear q;generalize zay B9 e b d g c=au at*
     obtain⟨t,i⟩:=au;dsimp only at*
     have z:d+c<t.length:=by rw[U,n.out];omega
     have b4:=f.cell (getD_some z);have b5:=f.frozen (d+c);have S:=zaj V (by decide) (d+c);have b2:i<1000000000:=W;have bc:t[d+c]?.getD 0<1000000000:=S;have bb:b[c]?.getD 0<1000000000:=R;have b0:d+c<k:=by omega
     have b6:(0:Int)<=(d:Int)+c:=by omega
     have b7:(d:Int)+c<k:=by omega
     have Q:=λa8=>zfh (z7 ar b.length a9) b c a8;have a6:=hid Q;clear Q;have p:=hid f;have aw:=hid z;clear U V W S R f z a3;generalize T:t[d+c]?.getD 0=m at*
     have ay:=hid T;clear T;go_wp2;have b9:(0:Int)<=(e:Int)*(b[c]?.getD 0:Nat):=by rw[<-Int.natCast_mul];omega
     have ba:(e:Int)*(b[c]?.getD 0:Nat)<=999999998000000001:=by
      have:=Nat.mul_le_mul (show e<=999999999 by omega) (show b[c]?.getD 0<=999999999 by omega);rw[<-Int.natCast_mul];omega
     generalize b[c]?.getD 0=h at*
     have aa:zm.wrap ((e:Int)*h)=(e:Int)*h:=zI _ (by omega);have ab:zm.wrap ((m:Int)+(e:Int)*h)=(m:Int)+(e:Int)*h:=zI _ (by omega);have ac:zm.wrap ((m:Int)+(e:Int)*h+i)=(m:Int)+(e:Int)*h+i:=zI _ (by omega);have ad:zm.wrap ((d:Int)+c)=(d:Int)+c:=zI _ (by omega);have ae:((d:Int)+c).toNat=d+c:=by omega
     go_quiet ((go_at_call 234;exact Calls.quiet_of_same (zi5 (a6 _ ((a2.below (j.trans (below_drewN (zM _ _) _)))) (by omega)))));clear aa ab ac ad ae;go_wp2;go_roundw
     case rel=>
      refine⟨c+1,by omega,by go_num,?_,?_,?_⟩
      ·rw[G.out];simp[B9]
      ·rw[G.out]
       have:=Row.set (w:=wr.drewN nq) (show Row (wr.drewN nq) v k t from p.out) (d+c) ((m+e*h+i)%B9);have s:I ((m+e*h+i)%B9)=zj zm (((m:Int)+e*h+i)%1000000000):=by simp[I,B9]
       rw[s] at this;exact this
      ·exact(below_drewN j _).setCell (by rw[F.out];exact zN _) _
     case measure=>simp[zL];omega
    ·obtain rfl:c=b.length+1:=by omega
     have p:=hid f;clear f;go_wp2;go_roundw
     case rel=>exact⟨d+1,by omega,by go_num,by rw[a5.out];exact p.out,j⟩
     case measure=>simp[zL];omega
  ·obtain rfl:d=a.length:=by omega
   obtain⟨l,E, -⟩:=zdf (B:=B9) (by decide) u r a.length N;rw[<-o.out] at l;generalize zbp B9 a b a.length=g at*
   have n:=hid l;clear l;have C:=f.sl;rw[n.out] at C;have a4:=hid C;clear C;have p:=hid f;clear f;go_wp21;refine(zjr _ g wr a4 (by rw[n.out,o.out];omega)).mono ?_;rintro s bh ⟨rfl,rfl⟩;go_wp21;go_ret;have:=zeq (p.own (base:=w.heap.size) (by rw[F.out];exact zN _)) rfl;rw[n.out] at this;exact⟨_,rfl,this,j⟩
end
section
open Go.RowKit Go.Shelf
attribute [local go_sem] Oper.semAt_some
def CellsKept (W W':zA):Prop:=∀(k:Nat) (cs:Array Value) (t:TypeId) (fz:Nat×Nat),W.heap[k]? =zq (Obj.cells cs t fz)->W'.heap[k]? =zq (Obj.cells cs t fz)
theorem CellsKept.cell {d e:zA} (h:CellsKept d e) {b o:Nat} {v:Value} (c:d.cell? ⟨b,o,zp⟩=zq v):e.cell? ⟨b,o,zp⟩=zq v:=by
 have f:=c;unfold World.cell? at c
 cases hb:d.heap[b]? with
 |none=>rw[hb] at c;cases c
 |some g=>
  rw[hb] at c;cases g<;>first|(cases c;done)|skip;rw[<-f];exact World.cell?_of_block (a:=⟨b,o,zp⟩) ((h _ _ _ _ hb).trans hb.symm)
theorem CellsKept.frozen {d e:zA} (h:CellsKept d e) {b o:Nat} {v:Value} (c:d.cell? ⟨b,o,zp⟩=zq v) (f:d.frozen? ⟨b,o,zp⟩=zu):e.frozen? ⟨b,o,zp⟩=zu:=by
 have i:=c;unfold World.cell? at c
 cases hb:d.heap[b]? with
 |none=>rw[hb] at c;cases c
 |some g=>
  rw[hb] at c;cases g<;>first|(cases c;done)|skip;rw[<-f];exact World.frozen?_of_block (a:=⟨b,o,zp⟩) ((h _ _ _ _ hb).trans hb.symm)
theorem CellsKept.sl {a b:zA} (h:CellsKept a b) {v:Value} {xs:List Value} (k:Sl a v xs):Sl b v xs:=by
 obtain⟨o,d,e,j,i⟩:=k;exact⟨o,d,e,j,λm p l=>let ⟨c,n,f,g⟩:=i m p l;⟨c,n,f,h.cell g⟩⟩
theorem CellsKept.row {a b:zA} (h:CellsKept a b) {g cap:Nat} {l:List Nat} (f:Row a g cap l):Row b g cap l:=by
 obtain⟨c,d,e⟩:=f;exact⟨c,h _ _ _ _ d,e⟩
theorem zen {a c:zA} {f:Option Nat} (i:a.grownBy c f) (j:∀r,f=zq r->∃o:Obj,a.heap[r]? =zq o/\o.isCells=zu):CellsKept a c:=by
 intro e k l fz b;rw[i.block e (Array.getElem?_eq_some_iff.1 b).1 (λg=>by
  obtain⟨o,d,h⟩:=j e g.symm;rw[b] at d;cases d;cases h)]
 exact b
theorem zv8 {β:Type} {I:β->zA->Prop} (h:∀c a b,CellsKept a b->I c a->I c b):Own I:=
 λc a b _ f d e=>h c a b (zen d e) f
theorem za0 {a b:zA} (h:qL a b):KeepsOthers a b:=
 ⟨h.size,λd e c _=>by rw[h.block d (Array.getElem?_eq_some_iff.1 c).1];exact c⟩
def upto {α:Type} (f:Nat->α) (k:Nat):List α:=(List.range k).map f
theorem zia {α:Type} (f:Nat->α) (k:Nat):upto f (k+1)=upto f k++[f k]:=by simp[upto,List.range_succ]
theorem zso {α:Type} (f:Nat->α) (k:Nat):(upto f k).length=k:=by simp[upto]
def At (len:Nat) (V:Nat->Int->Prop):Type:={p:Nat×Int // p.1<len/\V p.1 p.2}
theorem zyn (l r a cap:Nat) (p:Option Addr) (V:Nat->Int->Prop) (h:zA->Prop) (U:a<=3000)
 (n:∀d,h d->d.cell? ⟨r,0,zp⟩=zq (z7 p a cap)/\∀i,i<a->∃b off x,p=zq ⟨b,off,zp⟩/\V i x/\d.cell? ⟨b,off+i,zp⟩=zq (zj zm x))
 (g t:List (At a V)->zA->Prop)
 (A:∀c x d,g c d->c.length<a->YieldAt Fence.wide (2-1) zF l #[zj zm (x.1.1:Int),zj zm x.1.2] d λe f=>
   (e=zo (.bool zt)/\g (c++[x]) f/\(h d->h f))\/(e=zo (.bool zu)/\t (c++[x]) f))
 (d:zA) (D:h d) (M:g [] d):
 CallsIn Fence.wide 2 zF 292 #[.func (.yield l) #[] #[],zf (zq ⟨r,0,zp⟩)] d λe f=>(∃v,e=zo v)/\
  ((∃G:List (At a V),G.map (·.1.1)=upto (λk=>a-1-k) a/\g G f)\/(∃c:List (At a V),(∃k,k<=a/\c.map (·.1.1)=upto (λk=>a-1-k) k)/\t c f)):=by
 refine callsIn_of_wp Tryz.func292 rfl trivial ?_ rfl;simp only[Tryz.ntmps292,List.size_toArray,yA,yT,Nat.reduceAdd,Nat.reduceSub,Array.replicate_succ,Array.replicate_zero,List.push_toArray,List.append_toArray,List.nil_append,List.cons_append];have O:=(n d D).1;have K:=Lib.hid n;clear n;have L:=Lib.hid A;clear A;gi_wp2;gi_loopw [3] (λi wr=>∃(k:Nat) (c:List (At a V)),k<=a/\i=zj zm ((a:Int)-1-k)/\Hid (c.map (·.1.1)=upto (λk=>a-1-k) k)/\Hid (g c wr)/\Hid (h wr))
  (λi _=>(zL i+1).toNat)
 case atStart=>exact⟨0,[],zR _,by simp,rfl,M,D⟩
 case round=>
  clear O;obtain⟨k,c,T,rfl,j,u,E⟩:=hrel;have o:c.length=k:=by have:=congrArg List.length j.out;simpa [zso] using this
  by_cases hlt:k<a
  ·obtain⟨R,B⟩:=K wr E.out
   obtain⟨b,off,x,rfl,z,S⟩:=B (a-1-k) (by omega);obtain⟨m,q,F⟩:∃m:At a V,m.1.1=a-1-k/\m.1.2=x:=⟨⟨(a-1-k,x),by show a-1-k<a;omega,z⟩,rfl,rfl⟩;obtain⟨fn,tmps,assign,body,P,N⟩:=L c m wr u (by rw[o];exact hlt);clear o B z;have hi2:(((a-1-k:Nat):Int))=(a:Int)-1-k:=by omega
   rw[q,F,hi2] at P;have s:=Lib.hid q;clear hi2 q F;gi_wp2;refine N.mono ?_;rintro e Q (⟨rfl,w,C⟩|⟨rfl,y⟩)
   ·have H:=Lib.hid w;clear w
    have J:=Lib.hid C;clear C;gi_wp2;go_roundw
    case rel=>exact⟨k+1,_,by omega,by first|go_num|(simp;omega),by show List.map _ _=_;rw[List.map_append,j.out,zia,<-s.out];rfl,H.out,J E.out⟩
    case measure=>simp[zL];omega
   ·have I:=Lib.hid y;clear y
    gi_wp2;refine bodyPost_ret (results_none rfl _ _ _) rfl ?_;exact⟨⟨_,rfl⟩,.inr ⟨_,⟨k+1,by omega,by rw[List.map_append,j.out,zia,<-s.out];rfl⟩,I.out⟩⟩
  ·obtain rfl:k=a:=by omega
   clear o;gi_wp2;go_end0;exact⟨⟨_,rfl⟩,.inl ⟨_,j.out,u.out⟩⟩
theorem zhu (v:Value) (w:zA) (p:Option Addr) (n cap:Nat) (a:v=z7 p n cap):
 zC zF 266 #[v] w λe w'=>e=zo (.func (.func 292) #[] #[zf (zq ⟨w.heap.size,0,zp⟩)])/\w.alloc (.cells #[v] 74)=w':=by
 subst a;go_enter Tryz.func266,Tryz.ntmps266;go_wp2;go_ret;exact⟨rfl,rfl⟩
theorem zun (e c cap:Nat) (p:Option Addr) (V:Nat->Int->Prop) (d:zA->Prop) (o:c<=3000)
 (l:∀a,d a->a.cell? ⟨e,0,zp⟩=zq (z7 p c cap)/\∀i,i<c->∃b off x,p=zq ⟨b,off,zp⟩/\V i x/\a.cell? ⟨b,off+i,zp⟩=zq (zj zm x))
 (w:zA) (hw:∀a,qL w a->d a):
 SeqStopsK Fence.wide (3-1) zF 292 #[zf (zq ⟨e,0,zp⟩)] (λx:At c V=> #[zj zm (x.1.1:Int),zj zm x.1.2]) (λa h=>d a->d h)
  (λs=>s.map (·.1.1)=upto (λk=>c-1-k) c) (λr=>∃k,k<=c/\r.map (·.1.1)=upto (λk=>c-1-k) k) c w:=
 λq f g a m _ _ n j=>zyn q e c cap p V d o l f g n a (hw a m) j
theorem znd {g:Operand} {A:Array Tmp} {assign body:Code} {Q:Exit->Act->zA->Prop} {a:Act} {w:zA}
 (h:zA) (s:qL h w) (r e cap:Nat) (p:Option Addr) (V:Nat->Int->Prop) (o:zA->Prop) (R:e<=3000)
 (K:∀d,o d->d.cell? ⟨r,0,zp⟩=zq (z7 p e cap)/\∀i,i<e->∃b off x,p=zq ⟨b,off,zp⟩/\V i x/\d.cell? ⟨b,off+i,zp⟩=zq (zj zm x))
 (hw:∀d,qL w d->o d) (L:∀d j,CellsKept d j->o d->o j)
 (P:a.eval g=.func (.func 292) #[] #[zf (zq ⟨r,0,zp⟩)]) (T:A.size=2)
 (I:List (At e V)->zA->Prop) (q:Code->List (At e V)->zA->Prop) (H:∀f d j,CellsKept d j->I f d->I f j) (J:∀c f d j,CellsKept d j->q c f d->q c f j) (E:I [] w)
 (a₁:At e V->Act)
 (M:∀(l:Nat) (x:At e V) (d:zA) (B:Act->zA->Prop),B (a₁ x) d->
   assign.wpIn (Fence.wide.inRound l) 1 zF (Exit.then B (λ_ _ _=>False)) {tmps:=(A.zip #[zj zm (x.1.1:Int),zj zm x.1.2]).foldl (λt (p,v)=>t.setIfInBounds p v) a.tmps,defers:=[]} d)
 (N:∀(l:Nat) (n:List (At e V)) (x:At e V) (d:zA),I n d->qL h d->n.length<e->
   body.wpIn (Fence.wide.inRound l) 1 zF (ownPostG w.heap.size (λd j=>o d->o j) (λf d=>I f d/\zB h.heap.size h d) (λc f d=>q c f d/\zB h.heap.size h d) (n++[x]) d) (a₁ x) d)
 (O:∀(D:Nat) (xs:List (At e V)) (d:zA),w.heap.size<=D->xs.map (·.1.1)=upto (λk=>e-1-k) e->I xs d->qL h d->d.heap[D]? =zq (.deferred (zq []))->
   Q .normal {a with defers:={target:=.collected D,args:= #[]}::a.defers} d)
 (W:∀(D:Nat) (c:Code) (n:List (At e V)) (d:zA),w.heap.size<=D->(∃k,k<=e/\n.map (·.1.1)=upto (λk=>e-1-k) k)->q c n d->qL h d->d.heap[D]? =zq (.deferred (zq []))->
   c.wpIn Fence.wide 3 zF Q {a with defers:={target:=.collected D,args:= #[]}::a.defers} d):
 (Code.rangeFunc g A assign body).wpIn Fence.wide 3 zF Q a w:=
 wpIn_rangeFunc_ownG rfl (by omega) P trivial (enters_of Tryz.func292 (by kernel_rfl) rfl)
  (zun r e cap p V o R K w hw) (λm k x=>k (m x))
  (λd l X Y _ F G _ U=>L d _ (zen (grownBy_putObj' d l Y) (λZ C=>by cases C;exact⟨X,F,G⟩)) U)
  (zM _ _) (λ_=>T.symm)
  (λf d=>I f d/\zB h.heap.size h d) (λc f d=>q c f d/\zB h.heap.size h d)
  (OwnFrom.and ((zv8 H).from _) (ownFrom_below (zN _) s.size)) (λc=>OwnFrom.and ((zv8 (J c)).from _) (ownFrom_below (zN _) s.size))
  ⟨E,s⟩ a₁ M (λl n x d m S=>N l n x d m.1 m.2 S) (λD xs d u z m y=>O D xs d u z m.1 m.2 y) (λD c n d u z m y=>W D c n d u z m.1 m.2 y)
theorem zby {b a:zA} {D:Nat} (h:qL b a) (c:b.heap.size<=D) (d:a.heap[D]? =zq (.deferred (zq []))):qL b (a.putObj D (.deferred zp)):=
 h.trans (belowK_b (w:=b) (zN _) a D _ _ c d rfl rfl)
theorem zbk {a:zA} {D:Nat} (c:a.heap[D]? =zq (.deferred (zq []))):CellsKept a (a.putObj D (.deferred zp)):=
 zen (grownBy_putObj' a D _) (λd b=>by cases b;exact⟨_,c,rfl⟩)
def RdSl (Bs:Nat) (v:Value) (l:List Nat) (W:zA):Prop:=W.cell? ⟨Bs,0,zp⟩=zq v/\Sl W v (l.map I)
theorem RdSl.read {c cap:Nat} {p:Option Addr} {l:List Nat} {a:zA} (h:RdSl c (z7 p l.length cap) l a):
 a.cell? ⟨c,0,zp⟩=zq (z7 p l.length cap)/\∀i,i<l.length->∃b off x,p=zq ⟨b,off,zp⟩/\x=((l[i]?.getD 0:Nat):Int)/\a.cell? ⟨b,off+i,zp⟩=zq (zj zm x):=
 ⟨h.1,λ_ f=>let ⟨b,off,d,_,_,e⟩:=h.2.at f;⟨b,off,_,d,rfl,e⟩⟩
theorem zqt {a i:Nat} (h:i<a):i∈upto (λk=>a-1-k) a:=by
 simp only[upto,List.mem_map,List.mem_range];exact⟨a-1-i,by omega,by omega⟩
end
section
open Go
variable {P:Program} {ops:Array Oper}
def zhj (ops:Array Oper):Bool:=ops.all λo=>match o.op with| .defer _=>zu|_=>zt
theorem zv9 {l n:Nat} {a:String} {args:Array Value} {w:zA} {R:Value->zA->Prop} (h:Rows P a args w R):RowsIn (Fence.wide.inRound l) n P a args w R:=by
 intro b c _;obtain⟨f,g,d,e⟩:=h b c;exact⟨f,g,d,stepsIn_wide.2 e⟩
theorem zoc {l n:Nat} (s:zhj ops=zt) {i:Nat} {m o:Act->zA->Prop} {Q Q':Exit->Act->zA->Prop} (j:∀e a w,e≠ .normal->¬Q e a w) {a:Act} {w:zA}
 (b:∀a w,m a w->o a w) (h:wpOp P ops Q i m a w):wpOpIn (Fence.wide.inRound l) n P ops Q' i o a w:=by
 unfold wpOp at h;unfold wpOpIn
 cases ho:ops[i]? with
 |none=>simp only[ho] at h⊢;exact b _ _ h
 |some d=>
  simp only[ho] at h⊢;by_cases hw:Region.wanted d (yielded ops a.tmps)=zt
  ·simp only[hw,if_true] at h⊢
   have p:¬LetsOut Q:=λ⟨y,q,t⟩=>j _ _ _ (by intro e;cases e) t;rcases h with h|⟨_,h⟩
   ·refine⟨λ_ _=>trivial,?_⟩
    have r:∀f,d.op≠ .defer f:=by
     intro f e;have:=Array.all_eq_true'.1 s d (Array.mem_of_getElem? ho);rw[e] at this;cases this
    rw[Oper.semAt_eq _ _ _ r];unfold Oper.wp at h;generalize (execOp a.eval d).run P w=u at*
    cases u with
    |ok k q=>
     cases k<;>simp only[Oper.upon] at h<;>simp only[Oper.uponIn]
     all_goals first
      |exact b _ _ h
      |(refine⟨(by intro g;cases g),CallsIn.inRound l (callsIn_wide.2 (h.mono ?_))⟩
        intro e x c
        cases e with
        |returned v=>exact b _ _ c
        |panicked f=>exact absurd c (j _ _ _ (by intro e;cases e))
        |outgrown=>exact absurd c p)
      |(refine⟨(by intro g;cases g),zv9 (h.mono ?_)⟩
        intro v x c;exact b _ _ c)
    |halt k q=>
     cases k<;>simp only[Oper.upon] at h;exact absurd h (j _ _ _ (by intro e;cases e))
   ·exact absurd h p
  ·simp only[hw,Bool.false_eq_true,if_false] at h⊢
   exact⟨λ_ _=>trivial,b _ _ h⟩
theorem zd4 {l n:Nat} (g:zhj ops=zt) {md:Region.Mode} {Q Q':Exit->Act->zA->Prop} (f:∀e a w,e≠ .normal->¬Q e a w) (d:∀a w,Q .normal a w->Q' .normal a w):
 ∀(c:Nat) (h:Array Bool) (a:Act) (w:zA),wpAny P md ops Q c h a w->wpAnyIn (Fence.wide.inRound l) n P md ops Q' c h a w
 |0,_,_,_,b=>⟨b.1,d _ _ b.2⟩
 |c+1,_,_,_,b=>⟨λi=>d _ _ (b.1 i),λk j=>zoc g f (λa w b=>zd4 g f d c _ a w b) (b.2 k j)⟩
theorem zis {l m C:Nat} {Q:Exit->Act->zA->Prop} {a:Act} {w:zA} {b:List Oper} (n:Nat) (x:P.follows .mixedOrders=zt) (i:Region.lexTailB .any b.toArray n=zt) (y:zhj b.toArray=zt)
 (h:wpStill P b.toArray {w with drawn:=w.drawn+1} (λd=>wpList P b.toArray (λe a w=>e=.normal/\Q .normal a w) (b.drop n) d {w with drawn:=w.drawn+1}) (b.take n) a):(Code.region C b.toArray zt).wpIn (Fence.wide.inRound l) m P Q a w:=by
 simp only[Region.lexTailB,Bool.and_eq_true,decide_eq_true_eq] at i;obtain⟨⟨⟨⟨A,q⟩,z⟩,t⟩,v⟩:=i;have F:n<b.length:=by simpa using q
 have c:(b.take n).length=n:=by simp;omega
 have k:(b.drop n).length=b.toArray.size-n:=by simp
 have D:HeadInv .any b.toArray n (Array.replicate b.toArray.size zu):=
  ⟨by simp,λf G _ p=>(by rw[getD_replicate_false] at p;cases p),λH _ B=>getD_in (by simpa using B) (getD_replicate_false _ _)⟩
 have r:=wpAnyL_lex (md:=.any) (g:=b.toArray.size-n) A z t q (b.take n) 0 _ a (λf o=>by
  have u:f<n:=by rw[c] at o;exact o
  simp[u]) (by simpa using c) D (by rw[c];exact v) h
 refine wpIn_region_any x (zd4 y (Q:=λe a w=>e=.normal/\Q .normal a w) (λe a w h s=>h s.1) (λa w h=>h.2) _ _ _ _ ?_);have:=wpAny_of_head (Q':=λe a w=>e=.normal/\Q .normal a w) (g:=b.toArray.size-n) (λE d j=>by
  have:=wpAny_of_seq (md:=.any) (Q':=λe a w=>e=.normal/\Q .normal a w) (b.drop n) n E d {w with drawn:=w.drawn+1} (λf=>by simp[List.getElem?_drop]) (by rw[k];exact j.1) j.2;rwa [k] at this) _ _ _ r
 rw[c,show n+(b.toArray.size-n)=b.toArray.size by omega] at this;exact this
def zex (P:Program) (ops:Array Oper) (S:zA->Prop) (K:Act->Prop):List Oper->Act->Prop
 |[],a=>K a
 |o::rest,a=>∃v,YieldsIf P ops S o v a/\zex P ops S K rest (a.put o.dst v)
theorem zhv {S:zA->Prop} {c d:Act->Prop} (e:∀a,c a->d a):∀(l:List Oper) (a:Act),zex P ops S c l a->zex P ops S d l a
 |[],_,b=>e _ b
 |_::l,_,⟨v,hy,b⟩=>⟨v,hy,zhv e l _ b⟩
theorem ze6 {S:zA->Prop} {K:Act->Prop} {a:Act} (h:K a):zex P ops S K [] a:=h
theorem zer {S:zA->Prop} {K:Act->Prop} {a:Act} {o:Oper} {l:List Oper} {v:Value} (hw:Region.wanted o (yielded ops a.tmps)=zt) (hy:∀w,S w->(execOp a.eval o).run P w=.ok (.value v) w)
 (h:zex P ops S K l (a.put o.dst v)):zex P ops S K (o::l) a:=⟨v,.inl ⟨hw,hy⟩,h⟩
def zi7 (ops:Array Oper):Nat->Nat->Array Bool->Bool
 |0,_,_=>zt
 |m+1,k,listed=>Region.free .any ops listed k&&(Region.ready .any ops listed).contains k&&zi7 ops m (k+1) (listed.setIfInBounds k zt)
def zjs:Nat->Nat->Array Bool->Array Bool
 |0,_,listed=>listed
 |m+1,k,listed=>zjs m (k+1) (listed.setIfInBounds k zt)
theorem zko {S:zA->Prop} {Q:Exit->Act->zA->Prop} {w:zA} (i:Region.noSelect ops=zt) (f:∀c a b w,Q (.panic c) a w->Q (.panic c) b w) (h:S w) (g:Nat):
 ∀(l:List Oper) (k:Nat) (e:Array Bool) (a:Act),(∀j,j<l.length->l[j]? =ops[k+j]?)->zi7 ops l.length k e=zt->
  zex P ops S (λm=>wpAnyH P .any ops Q S g (zjs l.length k e) m w) l a->wpAnyH P .any ops Q S (l.length+g) e a w
 |[],k,e,a,_,_,d=>by rw[yT,Nat.zero_add];exact d
 |p::l,k,e,a,hl,hB,⟨v,hy,d⟩=>by
  have n:ops[k]? =zq p:=by simpa using(hl 0 (by simp)).symm
  simp only[yA,zi7,Bool.and_eq_true] at hB;rw[yA,show l.length+1+g=(l.length+g)+1 by omega];refine wpAnyH_take n i hB.1.1 hB.1.2 (λc a w d=>f c _ _ w d) hy h ?_;exact zko i f h g l (k+1) _ _ (λj o=>by have:=hl (j+1) (by simpa using o);simpa [Nat.add_assoc,Nat.add_comm 1 j] using this) hB.2 d
def zdw (P:Program) (ops:Array Oper) (Q:Exit->Act->zA->Prop) (S:zA->Prop):List Oper->Act->zA->Prop
 |[],a,w=>Q .normal a w
 |o::rest,a,w=>if Region.wanted o (yielded ops a.tmps) then o.wp P a w (λa' w'=>S w'/\zdw P ops Q S rest a' w') Q else S w/\zdw P ops Q S rest (a.put o.dst undef) w
theorem zbt {Q:Exit->Act->zA->Prop} {S:zA->Prop} {o:Oper} {d:List Oper} {a:Act} {w:zA} (hw:Region.wanted o (yielded ops a.tmps)=zt)
 (h:∀c:Act->zA->Prop,(∀b w',S w'->zdw P ops Q S d b w'->c b w')->o.wp P a w c Q):zdw P ops Q S (o::d) a w:=by
 simp only[zdw,hw,if_true];exact h _ λb w' e f=>⟨e,f⟩
theorem ze7 {Q:Exit->Act->zA->Prop} {S:zA->Prop} {a:Act} {w:zA} (h:Q .normal a w):zdw P ops Q S [] a w:=h
theorem zkp {S:zA->Prop} {Q:Exit->Act->zA->Prop}:∀(l:List Oper) (k:Nat) (f:Array Bool) (a:Act) (w:zA),(∀j,l[j]? =ops[k+j]?)->
 Region.seqB .any ops l.length k f=zt->zdw P ops Q S l a w->wpAnyH P .any ops Q S l.length f a w
 |[],_,_,_,_,_,d,b=>⟨by simpa [Region.seqB] using d,b⟩
 |i::l,k,f,a,w,hl,d,b=>by
  have m:ops[k]? =zq i:=by simpa using(hl 0).symm
  simp only[yA,Region.seqB,Bool.and_eq_true,decide_eq_true_eq] at d;refine wpAnyH_all d.1 (by simp) λg n=>?_;have o:g=k:=by simpa using n
  subst o;have p:∀e c,(S c/\zdw P ops Q S l e c)->(S c/\wpAnyH P .any ops Q S l.length (f.setIfInBounds g zt) e c):=λe c h=>
   ⟨h.1,zkp l (g+1) _ e c (λj=>by have:=hl (j+1);simpa [Nat.add_assoc,Nat.add_comm 1 j] using this) d.2 h.2⟩
  refine wpOp_mono p ?_;unfold wpOp;simp only[m];simp only[zdw] at b;by_cases hw:Region.wanted i (yielded ops a.tmps)=zt
  ·simp only[hw,if_true] at b⊢;exact .inl b
  ·simp only[hw,Bool.false_eq_true,if_false] at b⊢;exact b
theorem zmp {l m x:Nat} {Q:Exit->Act->zA->Prop} {a:Act} {w:zA} {b:List Oper} (n:Nat) (S:zA->Prop) (s:P.follows .mixedOrders=zt)
 (i:(Region.noSelect b.toArray&&zhj b.toArray&&decide (n<b.length)&&zi7 b.toArray n 0 (Array.replicate b.length zu)&&Region.seqB .any b.toArray (b.length-n) n (zjs n 0 (Array.replicate b.length zu)))=zt)
 (p:S {w with drawn:=w.drawn+1})
 (h:zex P b.toArray S (λd=>zdw P b.toArray (λe a w=>e=.normal/\Q .normal a w) S (b.drop n) d {w with drawn:=w.drawn+1}) (b.take n) a):
 (Code.region x b.toArray zt).wpIn (Fence.wide.inRound l) m P Q a w:=by
 simp only[Bool.and_eq_true,decide_eq_true_eq] at i;obtain⟨⟨⟨⟨u,t⟩,A⟩,r⟩,v⟩:=i;have c:(b.take n).length=n:=by simp;omega
 have j:(b.drop n).length=b.length-n:=by simp
 refine wpIn_region_any s (zd4 t (Q:=λe a w=>e=.normal/\Q .normal a w) (λe a w h f=>h f.1) (λa w h=>h.2) _ _ _ _ (wpAny_of_held _ _ _ _ (S:=S) ?_))
 have g:=zko (P:=P) (ops:=b.toArray) (S:=S) (Q:=λe a w=>e=.normal/\Q .normal a w) u (λz a y w h=>absurd h.1 (by intro e;cases e)) p (b.length-n) (b.take n) 0 (Array.replicate b.length zu) a
  (λo k=>by have q:o<n:=by rw[c] at k;exact k
            simp[q]) (by rw[c];exact r) (by
    rw[c];refine zhv ?_ _ _ h;intro d f;have:=zkp (P:=P) (ops:=b.toArray) (Q:=λe a w=>e=.normal/\Q .normal a w) (S:=S) (b.drop n) n _ d _ (λo=>by simp[List.getElem?_drop]) (by rw[j];exact v) f;rwa [j] at this)
 rw[c,show n+(b.length-n)=b.length by omega] at g;simpa using g
end
section
open Go
variable {P:Program} {ops:Array Oper}
def zfx (P:Program) (C:zA->Prop) (v:Value):Result Next->Prop
 | .ok (.value u) w'=>u=v/\C w'
 | .ok .skip w'=>v=undef/\C w'
 | .ok (.enter f args) w'=>zC P f args w' (λe w''=>e=zo v/\C w'')
 |_=>False
structure AcAt (ops:Array Oper) (i:Nat) (L:Array Bool):Prop where
 size:L.size=ops.size
 self:L.getD i zu=zu
 done:∀j,Region.waitsFor .any ops i j=zt->L.getD j zu=zt
 closed:∀i j,L.getD i zu=zt->Region.waitsFor .any ops i j=zt->L.getD j zu=zt
def zcr (ops:Array Oper) (i:Nat):Option Tmp:=(ops[i]?).bind (·.dst)
def zi8 (ops:Array Oper) (i:Nat):List Tmp:=match ops[i]? with|some o=>o.looksAt ops|none=>[]
def acB (ops:Array Oper):Bool:=
 Region.noSelect ops&&(List.range ops.size).all λi=>(List.range ops.size).all λj=>
  (i==j||match zcr ops j with
    |none=>zt
    |some d=>(zcr ops i !=zq d)&&(!(zi8 ops i).contains d||(if j<i then Region.waitsFor .any ops i j else Region.waitsFor .any ops j i)))
def zfd (ops:Array Oper):Bool:=(List.range ops.size).all λi=>match ops[i]? with|some (o:Oper)=>o.after.all λ(e:Edge)=>!Region.binds .any e||decide (e.on<i)|none=>zt
def zax (ops:Array Oper) (vs:Nat->Value) (a:Act) (L:Array Bool):Nat->Act
 |0=>a
 |k+1=>if L.getD k zu then(zax ops vs a L k).put (zcr ops k) (vs k) else zax ops vs a L k
theorem zyo (a:Act) (d:Option Tmp) (v:Value):(a.put d v).tmps.size=a.tmps.size:=by cases d<;>simp[Act.put]
theorem zg8 (c:Nat->Value) (a:Act) (b:Array Bool):∀k,(zax ops c a b k).tmps.size=a.tmps.size
 |0=>rfl
 |k+1=>by
  simp only[zax];split
  ·rw[zyo,zg8 c a b k]
  ·exact zg8 c a b k
theorem zod (a:Act) (d:Option Tmp) (v:Value) (t:Nat):(a.put d v).tmps[t]? =if d=zq t/\t<a.tmps.size then zq v else a.tmps[t]? :=by
 cases d with
 |none=>simp[Act.put]
 |some d=>
  simp only[Act.put,Array.getElem?_setIfInBounds,Option.some.injEq];by_cases h:d=t
  ·subst h
   by_cases h2:d<a.tmps.size
   ·simp[h2]
   ·simp[h2]
  ·simp[h]
theorem zib (e:Nat->Value) (a:Act) (f g:Array Bool) (t:Nat):∀k,(∀j,j<k->zcr ops j=zq t->f.getD j zu=g.getD j zu)->(zax ops e a f k).tmps[t]? =(zax ops e a g k).tmps[t]?
 |0,_=>rfl
 |k+1,d=>by
  have b:=zib e a f g t k (λj i=>d j (by omega));simp only[zax];by_cases hd:zcr ops k=zq t
  ·rw[d k (by omega) hd]
   split
   ·rw[zod,zod,zg8,zg8,b]
   ·exact b
  ·have c:∀h:Act,(h.put (zcr ops k) (e k)).tmps[t]? =h.tmps[t]? :=λh=>by rw[zod,if_neg (λd=>hd d.1)]
   split<;>split
   ·rw[c,c];exact b
   ·rw[c];exact b
   ·rw[c];exact b
   ·exact b
theorem zdp (a:Array Bool) (i j:Nat) (d:i<a.size):(a.setIfInBounds i zt).getD j zu=if i=j then zt else a.getD j zu:=by
 have c:∀(b:Array Bool),b.getD j zu=(b[j]?).getD zu:=λb=>by simp
 rw[c,c,Array.getElem?_setIfInBounds];by_cases h:i=j
 ·subst h;simp[d]
 ·simp[h]
theorem zic (c:Nat->Value) (a:Act) (b:Array Bool) (i:Nat) (h:i<b.size) (f:b.getD i zu=zu) (g:∀j d,j≠i->zcr ops i=zq d->zcr ops j≠zq d):
 ∀k,zax ops c a (b.setIfInBounds i zt) k=if i<k then(zax ops c a b k).put (zcr ops i) (c i) else zax ops c a b k
 |0=>by simp[zax]
 |k+1=>by
  have m:=zic c a b i h f g k;unfold zax;rw[zdp b i k h,m];rcases Nat.lt_trichotomy i k with e|e|e
  ·rw[if_neg (show ¬i=k by omega),if_pos e,if_pos (show i<k+1 by omega)]
   split
   ·exact Act.put_comm _ _ _ (λd l=>g k d (by omega) l)
   ·rfl
  ·subst e
   rw[if_pos rfl,if_neg (Nat.lt_irrefl _),if_pos rfl,if_pos (Nat.lt_succ_self _),f];simp
  ·rw[if_neg (show ¬i=k by omega),if_neg (show ¬i<k by omega),if_neg (show ¬i<k+1 by omega)]
def zbw (n k:Nat):Array Bool:=(Array.range n).map λi=>decide (i<k)
theorem zd5 (n k j:Nat):(zbw n k).getD j zu=(decide (j<n)&&decide (j<k)):=by
 simp only[zbw,Array.getD_eq_getD_getElem?];by_cases h:j<n
 ·simp[h]
 ·simp[h]
theorem zit {a b:Act} {o:Oper} (f:∀d b,o.op≠ .select d b) (h:∀t∈o.looksAt ops,a.tmps[t]? =b.tmps[t]?):
 execOp a.eval o=execOp b.eval o/\Region.wanted o (yielded ops a.tmps)=Region.wanted o (yielded ops b.tmps):=by
 constructor
 ·refine execOp_congr o f λi g=>?_
  cases i with
  |tmp t=>
   have:=h t (List.mem_append_left _ (List.mem_filterMap.2 ⟨.tmp t,by simpa using g,rfl⟩));simp[Act.eval,Array.getD_eq_getD_getElem?,this]
  |_=>rfl
 ·unfold Region.wanted
  cases hg:o.guard with
  |none=>rfl
  |some c=>
   obtain⟨c,j⟩:=c;have e:yielded ops a.tmps c=yielded ops b.tmps c:=by
    unfold yielded
    cases hd:(ops[c]?).bind (·.dst) with
    |none=>rfl
    |some t=>
     have:=h t (List.mem_append_right _ (by rw[hg];simp[hd]));simp[this]
   simp[e]
theorem zmq (k:(acB ops&&zfd ops)=zt):Region.noSelect ops=zt/\(∀i j d,i<ops.size->j<ops.size->i≠j->zcr ops j=zq d->zcr ops i≠zq d)/\
 (∀i j d,i<ops.size->j<ops.size->i≠j->zcr ops j=zq d->d∈zi8 ops i->(j<i/\Region.waitsFor .any ops i j=zt)\/(i<j/\Region.waitsFor .any ops j i=zt))/\
 (∀(i:Nat) (o:Oper),ops[i]? =zq o->∀(e:Edge),e∈o.after->Region.binds .any e=zt->e.on<i):=by
 simp only[acB,zfd,Bool.and_eq_true,List.all_eq_true,List.mem_range] at k;obtain⟨⟨m,h⟩,n⟩:=k;refine⟨m,λi j d c f g b=>?_,λi j d c f g b r=>?_,λi o l e q p=>?_⟩
 ·have:=h i c j f
  rw[b] at this;simp[g] at this;exact this.1
 ·have:=h i c j f
  rw[b] at this;simp[g] at this;have a:=this.2;rcases a with a|a
  ·exact absurd r a
  ·by_cases hji:j<i
   ·simp[hji] at a;exact .inl ⟨hji,a⟩
   ·simp[hji] at a;exact .inr ⟨by omega,a⟩
 ·have:=n i (Array.getElem?_eq_some_iff.1 l).1
  rw[l] at this;have:=Array.all_eq_true'.1 this e q;simpa [p] using this
def zue (P:Program) (ops:Array Oper) (C:Array Bool->zA->Prop) (i:Nat) (o:Oper) (a:Act) (v:Value):Prop:=
 ∀L w,AcAt ops i L->C L w->if Region.wanted o (yielded ops a.tmps) then zfx P (C (L.setIfInBounds i zt)) v ((execOp a.eval o).run P w) else v=undef/\C (L.setIfInBounds i zt) w
theorem zjt {o:Oper} {a:Act} {v:Value} {w:zA} {C:zA->Prop} {c:Act->zA->Prop} {Q:Exit->Act->zA->Prop} (b:∀w',C w'->c (a.put o.dst v) w') (h:zfx P C v ((execOp a.eval o).run P w)):o.wp P a w c Q:=by
 unfold Oper.wp;generalize (execOp a.eval o).run P w=g at*
 cases g with
 |ok d w'=>
  cases d<;>simp only[zfx] at h<;>simp only[Oper.upon]
  ·obtain⟨rfl,h⟩:=h;exact b _ h
  ·obtain⟨rfl,h⟩:=h;exact b _ h
  ·exact h.mono λi j ⟨f,e⟩=>by subst f;exact b _ e
 |halt d w'=>simp only[zfx] at h
def zoe (ops:Array Oper) (L:Array Bool):Prop:=∀i j,L.getD i zu=zt->Region.waitsFor .any ops i j=zt->L.getD j zu=zt
theorem zyp {Q:Exit->Act->zA->Prop} {C:Array Bool->zA->Prop} (Z:(acB ops&&zfd ops)=zt) (d:Nat->Value) (a:Act)
 (step:∀i o,ops[i]? =zq o->zue P ops C i o (zax ops d a (zbw ops.size i) ops.size) (d i))
 (a4:∀b w,(∀i,i<ops.size->b.getD i zu=zt)->C b w->Q .normal (zax ops d a (zbw ops.size ops.size) ops.size) w):
 ∀(n:Nat) (b:Array Bool) (w:zA),b.size=ops.size->zoe ops b->((List.range ops.size).filter λi=>!b.getD i zu).length<=n->C b w->wpAny P .any ops Q n b (zax ops d a b ops.size) w:=by
 obtain⟨aa,a3,a5,a2⟩:=zmq Z;have S:∀b w,(∀i,i<ops.size->b.getD i zu=zt)->C b w->Q .normal (zax ops d a b ops.size) w:=by
  intro b w m q;have j:zax ops d a b ops.size=zax ops d a (zbw ops.size ops.size) ops.size:=by
   have:∀k,k<=ops.size->zax ops d a b k=zax ops d a (zbw ops.size ops.size) k:=by
    intro k
    induction k with
    |zero=>intro _;rfl
    |succ k x=>
     intro ad;simp only[zax];rw[x (by omega),m k (by omega),zd5];simp[show k<ops.size by omega]
   exact this _ (zN _)
  rw[j];exact a4 b w m q
 have a9:∀b,b.size=ops.size->Region.ready .any ops b=[]->∀i,i<ops.size->b.getD i zu=zt:=by
  intro b v B i
  induction i using Nat.strongRecOn with
  |_ i x=>
   intro f
   cases hl:b.getD i zu with
   |true=>rfl
   |false=>
    have R:i∈Region.ready .any ops b:=by
     refine mem_ready.2 ⟨getD_in (by omega) hl,ops[i],by simp[f],λj H F=>?_⟩;have O:=a2 i (ops[i]) (show ops[i]? =zq (ops[i]) from Array.getElem?_eq_getElem f) j H F;exact x j.on O (Nat.lt_trans O f)
    rw[B] at R;cases R
 intro n
 induction n with
 |zero=>
  intro b w v y N q;have m:∀i,i<ops.size->b.getD i zu=zt:=by
   intro i f
   cases hl:b.getD i zu with
   |true=>rfl
   |false=>
    have:i∈(List.range ops.size).filter λi=>!b.getD i zu:=List.mem_filter.2 ⟨List.mem_range.2 f,by rw[hl];rfl⟩;rw[List.length_eq_zero_iff.1 (Nat.le_zero.1 N)] at this;cases this
  refine⟨?_,S b w m q⟩;apply List.eq_nil_iff_forall_not_mem.2;intro i f;obtain⟨D,o,g,_⟩:=mem_ready.1 f;have:=m i (Array.getElem?_eq_some_iff.1 g).1;rw[getD_both D] at this;cases this
 |succ n x=>
  intro b w v y N q;refine⟨λB=>S b w (a9 b v B) q,λi f=>?_⟩;obtain⟨D,o,g,m⟩:=mem_ready.1 f;have z:i<ops.size:=(Array.getElem?_eq_some_iff.1 g).1;have r:=getD_both D;have G:∀c,Region.waitsFor .any ops i c=zt->b.getD c zu=zt:=by
   intro c hw;obtain⟨ac,a7,j,H,F,rfl⟩:=Region.waitsFor_spec hw;have:ac=o:=Option.some.inj (a7.symm.trans g);subst this;exact m j H F
  have a8:∀c,Region.waitsFor .any ops c i=zt->b.getD c zu=zu:=by
   intro c hw
   cases hl:b.getD c zu with
   |false=>rfl
   |true=>rw[y c i hl hw] at r;cases r
  have a1:AcAt ops i b:=⟨v,r,G,y⟩;have s:=step i o g b w a1 q
  have U:=zic d a b i (by omega) r (λc Y a6 t u=>by
   rcases Nat.lt_or_ge c ops.size with I|I
   ·exact a3 i c Y z I (Ne.symm a6) u t
   ·simp[zcr,Array.getElem?_eq_none I] at u) ops.size
  rw[if_pos z] at U;have T:=zit (ops:=ops) (a:=zax ops d a b ops.size) (b:=zax ops d a (zbw ops.size i) ops.size) (o:=o) (λX L=>Region.noSelect_spec aa i o X L g) (λV ab=>by
   refine zib d a b _ V ops.size λc u t=>?_;rw[zd5];by_cases hji:c=i
   ·subst hji;rw[r];simp
   ·have:=a5 i c V z u (Ne.symm hji) t (by simpa [zi8,g] using ab)
    rcases this with⟨M,E⟩|⟨M,E⟩
    ·rw[G c E];simp[u,M]
    ·rw[a8 c E];simp;omega)
  have J:∀A,C (b.setIfInBounds i zt) A->wpAny P .any ops Q n (b.setIfInBounds i zt) ((zax ops d a b ops.size).put o.dst (d i)) A:=by
   intro A a0;have t:o.dst=zcr ops i:=by simp[zcr,g]
   rw[t,<-U];refine x _ A (by simpa using v) ?_ ?_ a0
   ·intro e W K hw
    rw[zdp b i _ (by omega)] at K⊢;split
    ·rfl
    ·split at K
     ·rename_i h;subst h;exact G W hw
     ·exact y e W K hw
   ·have j:((List.range ops.size).filter λe=>!(b.setIfInBounds i zt).getD e zu)=((List.range ops.size).filter λe=>!b.getD e zu).filter λe=>decide (e≠i):=by
     rw[List.filter_filter];refine List.filter_congr λe _=>?_;rw[zdp b i e (by omega)];by_cases h:i=e
     ·subst h;simp
     ·simp[h,Ne.symm h]
    rw[j];have:=(List.length_filter_lt_length_iff_exists (l:=(List.range ops.size).filter λe=>!b.getD e zu) (p:=λe=>decide (e≠i))).2 ⟨i,List.mem_filter.2 ⟨List.mem_range.2 z,by rw[r];rfl⟩,by simp⟩;omega
  unfold wpOp;simp only[g];rw[T.2];by_cases hw:Region.wanted o (yielded ops (zax ops d a (zbw ops.size i) ops.size).tmps)=zt
  ·rw[if_pos hw] at s⊢
   rw[<-T.1] at s;exact .inl (zjt J s)
  ·rw[if_neg hw] at s⊢
   rw[s.1] at J;exact J _ s.2
structure AcF (ops:Array Oper) (i:Nat) (f:Nat->Bool):Prop where
 self:f i=zu
 done:∀j,Region.waitsFor .any ops i j=zt->f j=zt
 closed:∀i j,f i=zt->Region.waitsFor .any ops i j=zt->f j=zt
theorem AcF.no {i:Nat} {f:Nat->Bool} (h:AcF ops i f) {j k:Nat} (a:f k=zu) (hw:Region.waitsFor .any ops j k=zt):f j=zu:=by
 cases hj:f j with
 |false=>rfl
 |true=>rw[h.closed j k hj hw] at a;cases a
def zwa (P:Program) (ops:Array Oper) (C:(Nat->Bool)->zA->Prop) (i:Nat) (o:Oper) (a:Act) (v:Value):Prop:=
 ∀f w,AcF ops i f->C f w->
  if Region.wanted o (yielded ops a.tmps) then zfx P (C (λj=>if i=j then zt else f j)) v ((execOp a.eval o).run P w) else v=undef/\C (λj=>if i=j then zt else f j) w
def AcL (P:Program) (ops:Array Oper) (C:(Nat->Bool)->zA->Prop) (K:Act->zA->Prop):Nat->List Oper->Act->Prop
 |_,[],a=>∀f w,(∀i,i<ops.size->f i=zt)->C f w->K a w
 |k,o::rest,a=>∃v,zwa P ops C k o a v/\AcL P ops C K (k+1) rest (a.put o.dst v)
theorem zck {C:(Nat->Bool)->zA->Prop} {K:Act->zA->Prop} {k:Nat} {a:Act} (h:∀f w,(∀i,i<ops.size->f i=zt)->C f w->K a w):AcL P ops C K k [] a:=h
theorem zab {C:(Nat->Bool)->zA->Prop} {b:Act->zA->Prop} {k:Nat} {o:Oper} {d:List Oper} {a:Act} {v:Value} (hw:Region.wanted o (yielded ops a.tmps)=zt)
 (g:∀f w,C f w->C (λj=>if k=j then zt else f j) w)
 (hy:∀f w,AcF ops k f->C f w->(execOp a.eval o).run P w=.ok (.value v) w)
 (h:AcL P ops C b (k+1) d (a.put o.dst v)):AcL P ops C b k (o::d) a:=by
 refine⟨v,λf w e c=>?_,h⟩;rw[if_pos hw,hy f w e c];exact⟨rfl,g f w c⟩
theorem zar {C:(Nat->Bool)->zA->Prop} {c:Act->zA->Prop} {k:Nat} {o:Oper} {d:List Oper} {a:Act} (v:Value) (hw:Region.wanted o (yielded ops a.tmps)=zt)
 (hy:∀f w,AcF ops k f->C f w->∀b:zA->Prop,(∀w',C (λj=>if k=j then zt else f j) w'->b w')->zfx P b v ((execOp a.eval o).run P w))
 (h:AcL P ops C c (k+1) d (a.put o.dst v)):AcL P ops C c k (o::d) a:=by
 refine⟨v,λf w g e=>?_,h⟩;rw[if_pos hw];exact hy f w g e _ λ_ h=>h
def zbq (vs:Nat->Value):Nat->List Oper->Act->Nat->Act
 |_,_,a,0=>a
 |_,[],a,_+1=>a
 |k,o::l,a,i+1=>zbq vs (k+1) l (a.put o.dst (vs k)) i
theorem zl2 (b:Nat->Value):∀(l:List Oper) (k:Nat) (a:Act) (i:Nat),i<l.length->zbq b k l a (i+1)=(zbq b k l a i).put ((l[i]?).bind (·.dst)) (b (k+i))
 |[],_,_,_,c=>absurd c (Nat.not_lt_zero _)
 |d::l,k,a,0,_=>by cases l<;>simp[zbq]
 |d::l,k,a,i+1,c=>by
  have:=zl2 b l (k+1) (a.put d.dst (b k)) i (by simpa using c);simp only[zbq] at this⊢;rw[this];simp[Nat.add_comm,Nat.add_left_comm]
theorem zqu {C:(Nat->Bool)->zA->Prop} {g:Act->zA->Prop}:∀(l:List Oper) (k:Nat) (a:Act),AcL P ops C g k l a->
 ∃b:Nat->Value,(∀i o,l[i]? =zq o->zwa P ops C (k+i) o (zbq b k l a i) (b (k+i)))/\(∀f w,(∀i,i<ops.size->f i=zt)->C f w->g (zbq b k l a l.length) w)
 |[],k,a,d=>⟨λ_=>undef,λi o d=>by simp at d,d⟩
 |o::l,k,a,⟨v,hv,d⟩=>by
  obtain⟨b,q,r⟩:=zqu l (k+1) _ d;have h:∀(l:List Oper) (b e:Nat->Value) (k:Nat) (a:Act) (i:Nat),(∀c,k<=c->b c=e c)->zbq b k l a i=zbq e k l a i:=by
   intro l
   induction l with
   |nil=>intro b e k a i _;cases i<;>rfl
   |cons o l t=>
    intro b e k a i j
    cases i with
    |zero=>rfl
    |succ i=>simp only[zbq];rw[j k (zN _)];exact t b e (k+1) _ i λc s=>j c (by omega)
  have n:∀c,k+1<=c->(if c=k then v else b c)=b c:=λc s=>if_neg (by omega);refine⟨λc=>if c=k then v else b c,λi p m=>?_,?_⟩
  ·cases i with
   |zero=>
    obtain rfl:o=p:=by simpa using m
    simpa [zbq] using hv
   |succ i=>
    have:=q i p (by simpa using m);simp only[zbq];rw[h l _ b (k+1) _ i n];simp only[if_true];rw[if_neg (by omega)];rw[show k+(i+1)=k+1+i by omega];exact this
  ·simp only[zbq,yA]
   rw[h l _ b (k+1) _ _ n];simpa using r
theorem zdg (b:Nat->Value) (l:List Oper) (a:Act) (i:Nat) (c:i<=l.length):∀k,k<=l.length->zax l.toArray b a (zbw l.length i) k=zbq b 0 l a (min i k)
 |0,_=>by simp[zax,zbq]
 |k+1,e=>by
  have d:=zdg b l a i c k (by omega);simp only[zax];rw[zd5,d];by_cases h:k<i
  ·simp only[show k<l.length by omega,h,decide_true,Bool.and_self,if_true]
   rw[Nat.min_eq_right (by omega),Nat.min_eq_right (by omega),zl2 b l 0 a k (by omega)];simp[zcr]
  ·simp only[h,decide_false,Bool.and_false,Bool.false_eq_true,if_false]
   rw[Nat.min_eq_left (by omega),Nat.min_eq_left (by omega)]
theorem zwb {m:Act->zA->Prop} {Q:Exit->Act->zA->Prop} (u:∀a w,m a w->Q .normal a w) {l:List Oper} (C:(Nat->Bool)->zA->Prop) (s:(acB l.toArray&&zfd l.toArray)=zt) {a:Act} {w:zA} (t:C (λ_=>zu) w) (h:AcL P l.toArray C m 0 l a):
 wpAny P .any l.toArray Q l.toArray.size (Array.replicate l.toArray.size zu) a w:=by
 obtain⟨d,q,r⟩:=zqu l 0 a h;have o:zax l.toArray d a (Array.replicate l.toArray.size zu) l.toArray.size=a:=by
  have:∀f,zax l.toArray d a (Array.replicate l.toArray.size zu) f=a:=by
   intro f
   induction f with
   |zero=>rfl
   |succ f y=>
    have:(Array.replicate l.toArray.size zu).getD f zu=zu:=by
     simp only[Array.getD];split<;>simp
    simp only[zax,this,Bool.false_eq_true,if_false];exact y
  exact this _
 have:=zyp (P:=P) (ops:=l.toArray) (Q:=Q) (C:=λe w=>C (λb=>e.getD b zu) w) s d a ?_ ?_ l.toArray.size (Array.replicate l.toArray.size zu) w (by simp) ?_ ?_ ?_
 ·rw[o] at this;exact this
 ·intro c z n e w g k
  have i:c<l.length:=by
   have:=(Array.getElem?_eq_some_iff.1 n).1;simpa using this
  have x:=q c z (by simpa using n) (λb=>e.getD b zu) w (by rw[Nat.zero_add];exact⟨g.self,g.done,g.closed⟩) k;have j:zax l.toArray d a (zbw l.toArray.size c) l.toArray.size=zbq d 0 l a c:=by
   have:=zdg d l a c (by omega) l.length (zN _);rw[Nat.min_eq_left (by omega)] at this;simpa using this
  have p:(λb=>(e.setIfInBounds c zt).getD b zu)=(λb=>if c=b then zt else e.getD b zu):=by
   funext b;exact zdp e c b (by rw[g.size];simpa using i)
  rw[j];simp only[p];simpa using x
 ·intro e w v k
  have j:zax l.toArray d a (zbw l.toArray.size l.toArray.size) l.toArray.size=zbq d 0 l a l.length:=by
   have:=zdg d l a l.length (zN _) l.length (zN _);rw[Nat.min_self] at this;simpa using this
  rw[j];exact u _ _ (r _ w v k)
 ·intro c b i
  have:(Array.replicate l.toArray.size zu).getD c zu=zu:=by simp only[Array.getD];split<;>simp
  rw[this] at i;cases i
 ·refine Nat.le_trans (List.length_filter_le _ _) (by simp)
 ·have:(λb=>(Array.replicate l.toArray.size zu).getD b zu)= λ_=>zu:=by
   funext b;simp only[Array.getD];split<;>simp
  simpa only[this] using t
theorem zbl {e:Nat} {Q:Exit->Act->zA->Prop} {a:Act} {w:zA} {l:List Oper} (C:(Nat->Bool)->zA->Prop) (d:P.follows .mixedOrders=zt) (b:(acB l.toArray&&zfd l.toArray)=zt) (c:C (λ_=>zu) {w with drawn:=w.drawn+1})
 (h:AcL P l.toArray C (Q .normal) 0 l a):(Code.region e l.toArray zt).wp P Q a w:=
 wp_region_any d (zwb (λ_ _ h=>h) C b c h)
theorem qR {C:(Nat->Bool)->zA->Prop} {b:Act->zA->Prop} {k:Nat} {o:Oper} {c:List Oper} {a:Act} (v:Value) (h:AcL P ops C b (k+1) c (a.put o.dst v)) (hw:Region.wanted o (yielded ops a.tmps)=zt:=by rfl) (d:∀f w,C f w->C (λj=>if k=j then zt else f j) w:=by exact λ_ _ h=>h) (hy:∀f w,AcF ops k f->C f w->(execOp a.eval o).run P w=.ok (.value v) w:=by intro f e g h;go_simp):AcL P ops C b k (o::c) a:=zab hw d hy h
end
end Go.Proofs.YtjmljcdbjakefaaGreatDoor
