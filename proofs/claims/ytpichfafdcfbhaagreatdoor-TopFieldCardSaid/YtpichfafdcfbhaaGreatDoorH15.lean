/- kingposttop.top05Number. -/
import Derived.Test.YtpichfafdcfbhaaGreatDoorH14
import Derived.Lib.SmallJoins
set_option maxRecDepth 100000
set_option maxHeartbeats 8000000
open Go renaming World → zA, Calls → zC
open Go.Lib renaming decDigits → zD
open Go.Proofs.Tryz renaming prog → zF
open Go.World renaming alloc_heap_new → zG
open Go.IntWalk renaming i64_in → zI
open Go.Joins renaming cell_of_block → zJ
open Go.RowKit renaming intOf → zL
open Go.RowKit.Below renaming refl → zM
open Nat renaming le_refl → zN, le_trans → zO, pow_le_pow_right → yF, pow_succ → yO, mul_comm → yP, pos_of_ne_zero → yS
namespace Go.Proofs.YtpichfafdcfbhaaGreatDoor
open Go.RowKit Go.Shelf Lib Str Limb
attribute [local go_sem] Oper.semAt_some
def RowSt (p:Option Addr) (l:List (List UInt8)) (W:zA):Prop:=∀i,i<l.length->∃b off,p=some ⟨b,off,none⟩/\W.cell? ⟨b,off+i,none⟩=some (St (l[i]?.getD []))
theorem RowSt.keep {p:Option Addr} {l:List (List UInt8)} {W W':zA} (h:RowSt p l W) (hc:CellsKept W W'):RowSt p l W':=λi hi=>let ⟨b,off,e,h1⟩:=h i hi;⟨b,off,e,hc.cell h1⟩
theorem RowSt.three (W:zA) (t:TypeId) (x y z:List UInt8):RowSt (some ⟨W.heap.size,0,none⟩) [x,y,z] (W.alloc (.cells #[St x,St y,St z] t)):=by
 have A:=zG W (.cells #[St x,St y,St z] t)
 intro i hi
 refine⟨_,_,rfl,?_⟩
 match i,hi with
 |0,_|1,_|2,_=>rw[zJ A];rfl
def numT (x:List UInt8):Prop:=x.length<=20/\∃q,x=numS q/\okQ q
theorem z68 (x:ByteArray) (Q:Prop)
 (C1:Hid (x.size<=20->∀W:zA,Wd W->zC zF 23 #[.string x] W λe w'=>∃r:Int,e=.returned (.int .i64 r)/\(r=0↔Q)/\Below W.heap.size W w'))
 (w:zA) (HW:Hid (Wd w)):
 zC zF 22 #[.string x] w (BoolP w (x.size<=20/\Q)):=by
 by_cases h1:(20:Int)<x.size
 ·have HN:=hid (λh=>by omega:¬(x.size<=20/\Q))
  go_enter Tryz.func22,Tryz.ntmps22
  go_wp2_with fail
  go_ret
  exact BoolP.no HN.out (zM _ _)
 ·have H1:=hid (C1.out (by omega) w HW.out)
  have HQ:=hid (⟨λh=>h.2,λh=>⟨by omega,h⟩⟩:(x.size<=20/\Q)↔Q)
  clear C1
  go_enter Tryz.func22,Tryz.ntmps22
  go_wp2_with fail
  refine H1.out.mono ?_
  rintro e w2 ⟨r,rfl,hr,hb2⟩
  have HR:=hid hr
  have HB:=hid hb2
  clear hr hb2 H1
  by_cases h0:r=0
  ·have hrb:(r !=0)=false:=by subst h0;rfl
   have HR0:=hid (HQ.out.2 (HR.out.1 h0))
   clear h0
   go_wp2_with fail
   go_ret
   exact BoolP.yes HR0.out HB.out
  ·have hrb:(r !=0)=true:=by simpa using h0
   have HR0:=hid (λh=>h0 (HR.out.2 (HQ.out.1 h)):¬(x.size<=20/\Q))
   clear h0
   go_wp2_with fail
   go_ret
   exact BoolP.no HR0.out HB.out
theorem z8l (x:List UInt8) (w:zA) (hw:Wd w):zC zF 22 #[St x] w (BoolP w (numT x)):=by
 have sz:(⟨x.toArray⟩:ByteArray).size=x.length:=by show x.toArray.size=_;simp
 have:=z68 ⟨x.toArray⟩ (∃q,x=numS q/\okQ q) (hid λh W hW=>zuj x (by rw[sz] at h;omega) W hW) w (hid hw)
 rw[sz] at this
 exact this
theorem z4g (p:Option Addr) (cap n:Nat) (l:List (List UInt8)) (hn:n=l.length) (hl:n<=5000) (G:Nat->Prop)
 (F:Hid (∀i,i<n->∀W:zA,Wd W->zC zF 22 #[St (l[i]?.getD [])] W (BoolP W (G i))))
 (w:zA) (HW:Hid (Wd w)) (HP:Hid (RowSt p l w)):
 zC zF 62 #[.slice p n cap,.func (.func 22) #[] #[]] w (IdxP w n G):=by
 have HN:=hid hn;clear hn
 go_enter Tryz.func62,Tryz.ntmps62
 go_wp2
 go_loopw [8] (λi wr=>∃(k:Nat),k<=n/\i=.int .i64 (k:Int)/\Hid (∀i,i<k->G i)/\Hid (qL w wr))
  (λi _=>n-(zL i).toNat)
 case atStart=>exact⟨0,Nat.zero_le _,rfl,λi h=>by omega,zM _ _⟩
 case round=>
  obtain⟨k,hk,rfl,hG,hB⟩:=hrel
  by_cases hlt:k<n
  ·obtain⟨b,off,rfl,c0⟩:=(HP.out.keep (zac hB.out)) k (by rw[<-HN.out];exact hlt)
   have HF:=hid (F.out k hlt wr (HW.out.below hB.out))
   generalize l[k]?.getD []=x at*
   go_wp2_with fail
   refine HF.out.mono ?_
   rintro e w2 ⟨t,rfl,ht,hb2⟩
   have hB2:=hid (hB.out.trans (hb2.mono hB.out.size))
   have HT:=hid ht;clear ht hb2 HF
   cases t
   ·go_wp2_with fail
    go_roundw
    case rel=>exact⟨k+1,by omega,by go_num,λi hi=>(by
     by_cases e:i=k
     ·subst e;exact HT.out.1 (by trivial)
     ·exact hG.out i (by omega)),hB2⟩
    case measure=>simp[zL];omega
   ·go_wp2_with fail
    go_ret
    exact IdxP.hit hlt (λh=>by have:=HT.out.2 h;simp at this) hB2.out
  ·have hkn:k=n:=by omega
   have HK:=hid hkn;clear hkn
   go_wp2_with fail
   go_ret
   exact IdxP.none (by rw[<-HK.out];exact hG.out) hB.out
theorem zvu (p:Option Addr) (cap n:Nat) (G:Nat->Prop) (w:zA)
 (F:Hid (zC zF 62 #[.slice p n cap,.func (.func 22) #[] #[]] w (IdxP w n G))):
 zC zF 21 #[.slice p n cap,.func (.func 22) #[] #[]] w (BoolP w (∀i,i<n->G i)):=by
 go_enter Tryz.func21,Tryz.ntmps21
 go_wp2_with fail
 refine F.out.mono ?_
 rintro e w1 ⟨k,rfl,hk,hB⟩
 rcases hk with⟨rfl,h⟩|⟨h0,i,hi,h⟩
 ·have HN:=hid h;clear h
  go_wp2_with fail
  go_ret
  exact BoolP.yes HN.out hB
 ·have HN:=hid (λh'=>h (h' i hi):¬ ∀i,i<n->G i);clear h
  go_wp2_with fail
  go_ret
  exact BoolP.no HN.out hB
theorem z5u (p:Option Addr) (cap n:Nat) (G:Prop) (w:zA)
 (F:Hid (zC zF 21 #[.slice p n cap,.func (.func 22) #[] #[]] w (BoolP w G))):
 zC zF 5 #[.slice p n cap] w (YesP w G):=by
 go_enter Tryz.func5,Tryz.ntmps5
 go_wp2_with fail
 refine F.out.mono ?_
 rintro e w1 ⟨b,rfl,hb,hB⟩
 have HN:=hid hb;clear hb
 cases b
 ·go_wp2_with fail
  go_ret
  exact YesP.yes (HN.out.1 (by trivial)) hB
 ·go_wp2_with fail
  go_ret
  exact YesP.no (λh=>by have:=HN.out.2 h;simp at this) hB
theorem z7c (p:Option Addr) (cap:Nat) (l:List (List UInt8)) (hl:l.length<=5000) (w:zA) (hw:Wd w) (hp:RowSt p l w):
 zC zF 5 #[.slice p l.length cap] w (YesP w (∀i,i<l.length->numT (l[i]?.getD []))):=
 z5u p cap l.length _ w (hid (zvu p cap l.length _ w (hid (z4g p cap l.length l rfl hl (λi=>numT (l[i]?.getD [])) (hid λ_ _ W hW=>z8l _ W hW) w (hid hw) (hid hp)))))
structure TfQ (a b c ab p bc lf ac back ac2 cb nu de:ByteArray) (bz:Bool) (E m s o:Int):Prop where
 A1:Hid (qK 7 #[.string a,.string b] (.tuple #[.string ab,.int .i64 0]))
 A2:Hid (qK 7 #[.string b,.string a] (.tuple #[.string ab,.int .i64 0]))
 M1:Hid (qK 8 #[.string a,.string b] (.tuple #[.string p,.int .i64 0]))
 M2:Hid (qK 8 #[.string b,.string a] (.tuple #[.string p,.int .i64 0]))
 A3:Hid (qK 7 #[.string b,.string c] (.tuple #[.string bc,.int .i64 0]))
 M3:Hid (qK 8 #[.string a,.string bc] (.tuple #[.string lf,.int .i64 0]))
 M4:Hid (qK 8 #[.string a,.string c] (.tuple #[.string ac,.int .i64 0]))
 A4:Hid (qK 7 #[.string p,.string ac] (.tuple #[.string lf,.int .i64 0]))
 D1:Hid (qK 9 #[.string p,.string b] (.tuple #[.string back,.int .i64 E]))
 C1:Hid (qK 10 #[.string a,.string b] (.tuple #[.int .i64 m,.int .i64 0]))
 A5:Hid (qK 7 #[.string a,.string c] (.tuple #[.string ac2,.int .i64 0]))
 C2:Hid (qK 10 #[.string ac2,.string bc] (.tuple #[.int .i64 m,.int .i64 0]))
 C3:Hid (qK 10 #[.string c,.string ⟨#[48]⟩] (.tuple #[.int .i64 s,.int .i64 0]))
 M5:Hid (qK 8 #[.string b,.string c] (.tuple #[.string cb,.int .i64 0]))
 C4:Hid (qK 10 #[.string ac,.string cb] (.tuple #[.int .i64 o,.int .i64 0]))
 PA:Hid (qK 11 #[.string a] (.tuple #[.string nu,.string de,.int .i64 0]))
 GC:Hid (qK 12 #[.string nu,.string de] (.tuple #[.string ⟨#[49]⟩,.int .i64 0]))
 CD:Hid (qK 13 #[.string de,.string ⟨#[48]⟩] (.tuple #[.int .i64 1,.int .i64 0]))
 BZ:Hid ((b.toList==[48])=bz)
 B1:Hid (bz=true->E=12/\back=⟨#[]⟩)
 B2:Hid (bz=false->E=0/\back=a)
 WR:Hid (IntKind.i64.wrap (m*s)=o)
theorem z6o (a b c:ByteArray) (G:Prop)
 (NU:Hid (∀W:zA,Wd W->zC zF 5 #[.slice (some ⟨W.heap.size,0,none⟩) 3 3] (W.alloc (.cells #[.string a,.string b,.string c] 22)) (YesP W G)))
 (w:zA) (HW:Hid (Wd w)) (AW:Hid (∀W:zA,qL w W->qJ 6 #[] W (.bool true)))
 (GD:Hid (G->∃ab p bc lf ac back ac2 cb nu de bz E m s o,TfQ a b c ab p bc lf ac back ac2 cb nu de bz E m s o)):
 qJ 3 #[.string a,.string b,.string c] w (.bool true):=by
 have HN:=hid (NU.out w HW.out)
 clear NU
 go_enter Tryz.func3,Tryz.ntmps3
 go_wp2_with fail
 refine HN.out.mono ?_
 rintro e w2 ⟨t,rfl,ht,hB⟩
 have K2:=hid hB
 have HT:=hid ht
 clear ht hB HN
 cases t
 case false=>
  go_wp2_with fail
  refine(AW.out w2 K2.out).mono ?_
  rintro e w3 ⟨rfl,hb3⟩
  have HB3:=hid (K2.out.trans (hb3.mono K2.out.size))
  clear hb3
  go_wp2_with fail
  go_ret
  exact⟨rfl,HB3.out⟩
 case true=>
 obtain⟨ab,p,bc,lf,ac,back,ac2,cb,nu,de,bz,E,m,s,o,A1,A2,M1,M2,A3,M3,M4,A4,D1,C1,A5,C2,C3,M5,C4,PA,GC,CD,BZ,B1,B2,WR⟩:=GD.out (HT.out.1 (by trivial))
 clear GD HT
 go_wp2_with fail
 refine(A1.out w2 (HW.out.below K2.out)).mono ?_
 rintro e w3 ⟨rfl,hb⟩
 have K3:=hid (K2.out.trans (hb.mono K2.out.size));clear hb K2 A1
 go_wp2_with fail
 refine(A2.out w3 (HW.out.below K3.out)).mono ?_
 rintro e w4 ⟨rfl,hb⟩
 have K4:=hid (K3.out.trans (hb.mono K3.out.size));clear hb K3 A2
 go_wp2_with fail
 refine(M1.out w4 (HW.out.below K4.out)).mono ?_
 rintro e w5 ⟨rfl,hb⟩
 have K5:=hid (K4.out.trans (hb.mono K4.out.size));clear hb K4 M1
 go_wp2_with fail
 refine(M2.out w5 (HW.out.below K5.out)).mono ?_
 rintro e w6 ⟨rfl,hb⟩
 have K6:=hid (K5.out.trans (hb.mono K5.out.size));clear hb K5 M2
 go_wp2_with fail
 refine(A3.out w6 (HW.out.below K6.out)).mono ?_
 rintro e w7 ⟨rfl,hb⟩
 have K7:=hid (K6.out.trans (hb.mono K6.out.size));clear hb K6
 have A3b:=A3;clear A3
 go_wp2_with fail
 refine(M3.out w7 (HW.out.below K7.out)).mono ?_
 rintro e w8 ⟨rfl,hb⟩
 have K8:=hid (K7.out.trans (hb.mono K7.out.size));clear hb K7 M3
 go_wp2_with fail
 refine(M4.out w8 (HW.out.below K8.out)).mono ?_
 rintro e w9 ⟨rfl,hb⟩
 have K9:=hid (K8.out.trans (hb.mono K8.out.size));clear hb K8 M4
 go_wp2_with fail
 refine(A4.out w9 (HW.out.below K9.out)).mono ?_
 rintro e w10 ⟨rfl,hb⟩
 have K10:=hid (K9.out.trans (hb.mono K9.out.size));clear hb K9 A4
 have mx8:∀w:zA,(Builtin.max_ #[25,25,25,25,25,25,25,25] 25 #[.int .i64 0,.int .i64 0,.int .i64 0,.int .i64 0,.int .i64 0,.int .i64 0,.int .i64 0,.int .i64 0]).run zF w=.ok (.int .i64 0) w:=λ_=>by kernel_rfl
 have hbz:=BZ.out
 have hwr:=WR.out
 rcases(by cases bz<;>simp:bz=true\/bz=false) with rfl|rfl
 case' inl=>obtain⟨rfl,rfl⟩:=B1.out rfl
 case' inr=>obtain⟨rfl,rfl⟩:=B2.out rfl
 all_goals
  clear B1 B2 BZ WR
  have mx7:∀w:zA,(Builtin.max_ #[25,25,25,25,25,25,25] 25 #[.int .i64 0,.int .i64 0,.int .i64 0,.int .i64 0,.int .i64 0,.int .i64 0,.int .i64 0]).run zF w=.ok (.int .i64 0) w:=λ_=>by kernel_rfl
  have mx3:∀w:zA,(Builtin.max_ #[25,25,25] 25 #[.int .i64 0,.int .i64 0,.int .i64 0]).run zF w=.ok (.int .i64 0) w:=λ_=>by kernel_rfl
  go_wp2_with fail
  refine(D1.out w10 (HW.out.below K10.out)).mono ?_
  rintro e w11 ⟨rfl,hb⟩
  have K11:=hid (K10.out.trans (hb.mono K10.out.size));clear hb K10 D1
  go_wp2_with fail
  refine(C1.out w11 (HW.out.below K11.out)).mono ?_
  rintro e w12 ⟨rfl,hb⟩
  have K12:=hid (K11.out.trans (hb.mono K11.out.size));clear hb K11 C1
  go_wp2_with fail
  refine(A5.out w12 (HW.out.below K12.out)).mono ?_
  rintro e w13 ⟨rfl,hb⟩
  have K13:=hid (K12.out.trans (hb.mono K12.out.size));clear hb K12 A5
  go_wp2_with fail
  refine(A3b.out w13 (HW.out.below K13.out)).mono ?_
  rintro e w14 ⟨rfl,hb⟩
  have K14:=hid (K13.out.trans (hb.mono K13.out.size));clear hb K13 A3b
  go_wp2_with fail
  refine(C2.out w14 (HW.out.below K14.out)).mono ?_
  rintro e w15 ⟨rfl,hb⟩
  have K15:=hid (K14.out.trans (hb.mono K14.out.size));clear hb K14 C2
  go_wp2_with fail
  refine(C3.out w15 (HW.out.below K15.out)).mono ?_
  rintro e w16 ⟨rfl,hb⟩
  have K16:=hid (K15.out.trans (hb.mono K15.out.size));clear hb K15 C3
  go_wp2_with fail
  refine(M5.out w16 (HW.out.below K16.out)).mono ?_
  rintro e w17 ⟨rfl,hb⟩
  have K17:=hid (K16.out.trans (hb.mono K16.out.size));clear hb K16 M5
  go_wp2_with fail
  refine(C4.out w17 (HW.out.below K17.out)).mono ?_
  rintro e w18 ⟨rfl,hb⟩
  have K18:=hid (K17.out.trans (hb.mono K17.out.size));clear hb K17 C4
  go_wp2_with fail
  refine(PA.out w18 (HW.out.below K18.out)).mono ?_
  rintro e w19 ⟨rfl,hb⟩
  have K19:=hid (K18.out.trans (hb.mono K18.out.size));clear hb K18 PA
  go_wp2_with fail
  refine(GC.out w19 (HW.out.below K19.out)).mono ?_
  rintro e w20 ⟨rfl,hb⟩
  have K20:=hid (K19.out.trans (hb.mono K19.out.size));clear hb K19 GC
  go_wp2_with fail
  refine(CD.out w20 (HW.out.below K20.out)).mono ?_
  rintro e w21 ⟨rfl,hb⟩
  have K21:=hid (K20.out.trans (hb.mono K20.out.size));clear hb K20 CD
  go_wp2_with fail
  refine(AW.out w21 K21.out).mono ?_
  rintro e w30 ⟨rfl,hb⟩
  have HB:=hid (K21.out.trans (hb.mono K21.out.size))
  clear hb
  go_wp2_with fail
  go_ret
  exact⟨rfl,HB.out⟩
end Go.Proofs.YtpichfafdcfbhaaGreatDoor
namespace Go.Proofs.YtpichfafdcfbhaaGreatDoor.Geo
theorem zmz {a b:Rat} (ha:0<a) (hb:0<b):0<a*b:=Rat.mul_pos ha hb
theorem zzl {a b:Rat} (ha:0<a) (hb:b<0):a*b<0:=by
 have:=Rat.mul_pos ha (show 0< -b by grind);grind
theorem zw9 {a b:Rat} (ha:a<0) (hb:0<b):a*b<0:=by
 have:=Rat.mul_pos (show 0< -a by grind) hb;grind
theorem z1x {a b:Rat} (ha:a<0) (hb:b<0):0<a*b:=by
 have:=Rat.mul_pos (show 0< -a by grind) (show 0< -b by grind);grind
theorem zdq (a b:Rat):cmpR a b=cmpR (a-b) 0:=zmx _ _ _ _ (by grind)
theorem zrl (a b:Rat):cmpR (a*b) 0=cmpR a 0*cmpR b 0:=by
 rcases zaw a 0 with⟨h1,e1⟩|⟨h1,e1⟩|⟨h1,e1⟩<;>rcases zaw b 0 with⟨h2,e2⟩|⟨h2,e2⟩|⟨h2,e2⟩<;>rw[e1,e2]
 ·have:=z1x h1 h2;have:=zaw (a*b) 0;grind
 ·subst h2;rw[Rat.mul_zero,zeu];rfl
 ·have:=zw9 h1 h2;have:=zaw (a*b) 0;grind
 ·subst h1;rw[Rat.zero_mul,zeu];rfl
 ·subst h1;rw[Rat.zero_mul,zeu];rfl
 ·subst h1;rw[Rat.zero_mul,zeu];rfl
 ·have:=zzl h1 h2;have:=zaw (a*b) 0;grind
 ·subst h2;rw[Rat.mul_zero,zeu];rfl
 ·have:=zmz h1 h2;have:=zaw (a*b) 0;grind
def onR (a b p:Pt):Prop:=cmpR p.x a.x*cmpR p.x b.x<=0/\cmpR p.y a.y*cmpR p.y b.y<=0
instance (a b p:Pt):Decidable (onR a b p):=by unfold onR;infer_instance
def cr (a b c:Pt):Rat:=(b.x-a.x)*(c.y-a.y)-(b.y-a.y)*(c.x-a.x)
def le (p q:Pt):Prop:=ordP p q<=0
theorem le_trans {p q r:Pt} (h:le p q) (k:le q r):le p r:=by unfold le at*;have:=zas p q;have:=zas q r;have:=zas p r;grind
theorem le_antisymm {p q:Pt} (h:le p q) (k:le q p):p=q:=by unfold le at*;have:=zas p q;have:=zas q p;grind
end Go.Proofs.YtpichfafdcfbhaaGreatDoor.Geo
namespace Go.Proofs.YtpichfafdcfbhaaGreatDoor
open Go.RowKit Go.Shelf Lib Str Limb Geo
theorem z73 (a b c:Rat):cmpR (a*c) (b*c)=cmpR a b*cmpR c 0:=by
 rw[zdq (a*c),show a*c-b*c=(a-b)*c by grind,zrl,<-zdq]
theorem z74 (a b c:Rat):IntKind.i64.wrap (cmpR a b*cmpR c 0)=cmpR a b*cmpR c 0:=by
 have h1:=zaw a b;have h2:=zaw c 0
 have e1:cmpR a b= -1\/cmpR a b=0\/cmpR a b=1:=by grind
 have e2:cmpR c 0= -1\/cmpR c 0=0\/cmpR c 0=1:=by grind
 rcases e1 with e|e|e<;>rcases e2 with f|f|f<;>rw[e,f]<;>decide
theorem z4x (a:Rat):zD a.den=itoa (a.den:Int):=(Str.zad _).symm
theorem z7d (x0 x1 x2:List UInt8) (w:zA) (AW:Hid (∀W:zA,qL w W->qJ 6 #[] W (.bool true))) (hw:Wd w):
 qJ 3 #[St x0,St x1,St x2] w (.bool true):=by
 refine z6o ⟨x0.toArray⟩ ⟨x1.toArray⟩ ⟨x2.toArray⟩ (∀i,i<3->numT ([x0,x1,x2][i]?.getD [])) (hid λW hW=>?_) w (hid hw) AW (hid λg=>?_)
 ·have hal:qL W (W.alloc (.cells #[St x0,St x1,St x2] 22)):=(zM _ W).alloc (zN _) _
  refine(z7c (some ⟨W.heap.size,0,none⟩) 3 [x0,x1,x2] (by simp) _ (hW.below hal) (RowSt.three W _ _ _ _)).mono ?_
  rintro e w' ⟨b,rfl,h,hb⟩
  exact⟨b,rfl,h,hal.trans (hb.mono hal.size)⟩
 ·obtain⟨l0,a,h0,oa⟩:=g 0 (by omega)
  obtain⟨l1,b,h1,ob⟩:=g 1 (by omega)
  obtain⟨l2,c,h2,oc⟩:=g 2 (by omega)
  obtain rfl:x0=numS a:=h0
  obtain rfl:x1=numS b:=h1
  obtain rfl:x2=numS c:=h2
  have sa:sz a 20:=zto (by omega) l0
  have sb:sz b 20:=zto (by omega) l1
  have sc:sz c 20:=zto (by omega) l2
  clear g l0 l1 l2
  have z0:sz 0 1:=⟨by decide,by decide⟩
  have n0:numS 0=[48]:=(zpy 0).2 rfl
  have hdl:(zD a.den).length<=300:=oa.2
  refine⟨⟨(numS (a+b)).toArray⟩,⟨(numS (a*b)).toArray⟩,⟨(numS (b+c)).toArray⟩,⟨(numS (a*(b+c))).toArray⟩,⟨(numS (a*c)).toArray⟩,if b=0 then⟨#[]⟩ else⟨(numS a).toArray⟩,⟨(numS (a+c)).toArray⟩,⟨(numS (b*c)).toArray⟩,⟨(itoa a.num).toArray⟩,⟨(zD a.den).toArray⟩,decide (b=0),if b=0 then 12 else 0,cmpR a b,cmpR c 0,cmpR a b*cmpR c 0,?_⟩
  refine⟨hid λW hW=>?_,hid λW hW=>?_,hid λW hW=>?_,hid λW hW=>?_,hid λW hW=>?_,hid λW hW=>?_,hid λW hW=>?_,hid λW hW=>?_,hid λW hW=>?_,hid λW hW=>?_,hid λW hW=>?_,hid λW hW=>?_,hid λW hW=>?_,hid λW hW=>?_,hid λW hW=>?_,hid λW hW=>?_,hid λW hW=>?_,hid λW hW=>?_,hid ?_,hid λh=>?_,hid λh=>?_,hid (z74 a b c)⟩
  ·exact zje a b 20 20 (by omega) (by omega) (by omega) sa sb W hW
  ·have:=zje b a 20 20 (by omega) (by omega) (by omega) sb sa W hW
   rw[Rat.add_comm] at this;exact this
  ·exact zjf a b 20 20 (by omega) (by omega) (by omega) sa sb W hW
  ·have:=zjf b a 20 20 (by omega) (by omega) (by omega) sb sa W hW
   rw[Rat.mul_comm] at this;exact this
  ·exact zje b c 20 20 (by omega) (by omega) (by omega) sb sc W hW
  ·exact zjf a (b+c) 20 41 (by omega) (by omega) (by omega) sa (zk0 sb sc) W hW
  ·exact zjf a c 20 20 (by omega) (by omega) (by omega) sa sc W hW
  ·have:=zje (a*b) (a*c) 40 40 (by omega) (by omega) (by omega) (zca sa sb) (zca sa sc) W hW
   rw[<-Rat.mul_add] at this;exact this
  ·by_cases h:b=0
   ·rw[if_pos h,if_pos h,h]
    have:=z67 (a*0) (by rw[Rat.mul_zero];exact⟨by decide+kernel,by decide+kernel⟩) W hW
    rw[n0]
    exact this
   ·rw[if_neg h,if_neg h]
    have:=zoj (a*b) b h 40 20 (by omega) (by omega) (by omega) (zca sa sb) sb W hW
    rw[show a*b/b=a by grind] at this
    exact this
  ·exact zgq a b 20 20 (by omega) (by omega) (by omega) sa sb W hW
  ·exact zje a c 20 20 (by omega) (by omega) (by omega) sa sc W hW
  ·have:=zgq (a+c) (b+c) 41 41 (by omega) (by omega) (by omega) (zk0 sa sc) (zk0 sb sc) W hW
   rw[zmx (a+c) (b+c) a b (by grind)] at this
   exact this
  ·have:=zgq c 0 20 1 (by omega) (by omega) (by omega) sc z0 W hW
   rw[n0] at this
   exact this
  ·exact zjf b c 20 20 (by omega) (by omega) (by omega) sb sc W hW
  ·have:=zgq (a*c) (b*c) 40 40 (by omega) (by omega) (by omega) (zca sa sc) (zca sb sc) W hW
   rw[z73] at this
   exact this
  ·exact zk5 a oa W hW
  ·have:=ztw a.num (a.den:Int) oa.1 (by unfold digs;rw[Int.natAbs_natCast];exact hdl) W hW
   rw[<-z4x,show Int.gcd a.num (a.den:Int)=1 from a.reduced,show itoa ((1:Nat):Int)=[49] by rw[Str.zad,zae (by omega)];rfl] at this
   exact this
  ·have:=zsx (a.den:Int) 0 (by unfold digs;rw[Int.natAbs_natCast];exact hdl) (by decide+kernel) W
   rw[<-z4x,show itoa (0:Int)=[48] by show itoa ((0:Nat):Int)=_;rw[Str.zad,zae (by omega)];rfl,show cmpZ (a.den:Int) 0=1 by unfold cmpZ;have:=a.den_pos;rw[if_neg (by omega),if_pos (by omega)]] at this
   exact this
  ·rw[Bool.eq_iff_iff,beq_iff_eq,decide_eq_true_iff,<-zpy,ByteArray.toList_eq]
  ·have hb:=of_decide_eq_true h
   rw[if_pos hb,if_pos hb];exact⟨rfl,rfl⟩
  ·have hb:=of_decide_eq_false h
   rw[if_neg hb,if_neg hb];exact⟨rfl,rfl⟩
end Go.Proofs.YtpichfafdcfbhaaGreatDoor
namespace Go.Proofs.YtpichfafdcfbhaaGreatDoor
open Go.RowKit Go.Shelf Lib Str Limb
attribute [local go_sem] Oper.semAt_some
theorem zti (x u v s1 s2:ByteArray) (m d:Int) (hu:(u.toList==[48])=false) (hl:(u.size:Int)+v.size<=17) (hl0:u.size<=17/\v.size<=17)
 (CK:Hid (∀W:zA,Wd W->zC zF 146 #[.slice (some ⟨W.heap.size,0,none⟩) 1 1,.slice (some ⟨W.heap.size+1,0,none⟩) 1 1] ((W.alloc (.cells #[.string x] 22)).alloc (.cells #[.string x] 22)) λe w'=>e=.returned (.int .i64 0)/\Below W.heap.size W w'))
 (O:Hid (qK 148 #[.string x] (.agg #[.string u,.string v])))
 (NU:Hid (qK 199 #[.string u] (.tuple #[.int .i64 m,.bool true])))
 (NV:Hid (qK 199 #[.string v] (.tuple #[.int .i64 d,.bool true])))
 (NN:Hid (∀W:zA,Wd W->Pw W->qJ 200 #[.int .i64 m,.int .i64 d] W (.tuple #[.string s1,.string s2])))
 (w:zA) (HW:Hid (Wd w)) (HP:Hid (Pw w)):
 qJ 145 #[.string x] w (.tuple #[.string s1,.string s2,.int .i64 0]):=by
 have hck:=CK.out w HW.out
 have HCK:=hid hck;clear hck CK
 have hwl:IntKind.i64.wrap ((u.size:Int)+v.size)=(u.size:Int)+v.size:=zI _ ⟨by omega,by omega⟩
 go_enter Tryz.func145,Tryz.ntmps145
 go_wp2_with fail
 refine HCK.out.mono ?_
 rintro e w1 ⟨rfl,hb1⟩
 have HB1:=hid hb1;clear hb1 HCK
 go_wp2_with fail
 refine(O.out w1 (HW.out.below HB1.out)).mono ?_
 rintro e w2 ⟨rfl,hb2⟩
 have HB2:=qT HB1 hb2;clear hb2 HB1
 obtain⟨w3,hw3⟩:∃w3,w3=w2.alloc (.cells #[.string u,.string v] 183):=⟨_,rfl⟩
 have ha:qL w2 w3:=by rw[hw3];exact(zM _ w2).alloc (zN _) _
 have A3:w3.heap[w2.heap.size]? =some (.cells #[.string u,.string v] 183 (0,0)):=by rw[hw3];exact zG w2 _
 have HB3:=qT HB2 ha
 have c0:w3.cell? ⟨w2.heap.size,0,none⟩=some (.string u):=by rw[zJ A3];rfl
 have c1:w3.cell? ⟨w2.heap.size,1,none⟩=some (.string v):=by rw[zJ A3];rfl
 have C3:=hid (⟨c0,c1⟩:w3.cell? ⟨w2.heap.size,0,none⟩=some (.string u)/\w3.cell? ⟨w2.heap.size,1,none⟩=some (.string v))
 rw[hw3] at c0 c1
 have HW3:=hid hw3;clear hw3 ha A3
 go_wp2_with fail
 rw[<-HW3.out]
 clear c0 c1
 refine(NU.out w3 (HW.out.below HB3.out)).mono ?_
 rintro e w4 ⟨rfl,hb4⟩
 have HB4:=qT HB3 hb4
 have c0:=(zac hb4).cell C3.out.1;have c1:=(zac hb4).cell C3.out.2
 clear hb4 HW3
 go_wp2_with fail
 refine(NV.out w4 (HW.out.below HB4.out)).mono ?_
 rintro e w5 ⟨rfl,hb5⟩
 have HB5:=qT HB4 hb5
 clear hb5 c0 c1
 go_wp2_with fail
 refine(NN.out w5 (HW.out.below HB5.out) (HP.out.below HB5.out)).mono ?_
 rintro e w6 ⟨rfl,hb6⟩
 have HB6:=qT HB5 hb6
 clear hb6
 go_wp2_with fail
 go_ret3
 exact⟨rfl,HB6.out⟩
theorem zc5 (n:Nat):numS ((n:Int):Rat)=zD n:=by rw[zha,Str.zad]
theorem zki {n k:Nat} (hk:0<k) (h:n<10^k):(zD n).length<=k:=(zaf n k hk).2 h
theorem z0b (W:zA) (t:TypeId) (x:List UInt8) (q:Rat) (hx:numS q=x):
 RowNums (some ⟨W.heap.size,0,none⟩) 1 (λ_=>q) ((W.alloc (.cells #[St x] t)).alloc (.cells #[St x] t))/\
 RowNums (some ⟨W.heap.size+1,0,none⟩) 1 (λ_=>q) ((W.alloc (.cells #[St x] t)).alloc (.cells #[St x] t)):=by
 have b1:=(Boxed.new W t (St x)).alloc (.cells #[St x] t)
 have b2:=Boxed.new (W.alloc (.cells #[St x] t)) t (St x)
 rw[World.size_alloc] at b2
 constructor
 ·intro i hi
  obtain rfl:i=0:=by omega
  exact⟨_,_,rfl,by rw[hx];exact b1.cell⟩
 ·intro i hi
  obtain rfl:i=0:=by omega
  exact⟨_,_,rfl,by rw[hx];exact b2.cell⟩
theorem zfg:zD 1=[49]:=by rw[zae (by omega)];rfl
theorem zfc:numS 1=[49]:=by have:=zc5 1;rw[zfg] at this;exact this
end Go.Proofs.YtpichfafdcfbhaaGreatDoor
namespace Go.Proofs.YtpichfafdcfbhaaGreatDoor
open Go.RowKit Go.Shelf Lib Str Limb Geo
attribute [local go_sem] Oper.semAt_some
theorem zcj {W W':zA} (h:CellsKept W W') {B:Nat} {e:TypeId} {s:Nat} {v:Value} {n:Nat} {xs:List Value} (ho:W.ownsRow B e s v n xs):W'.ownsRow B e s v n xs:=by
 obtain⟨hl,ho⟩:=ho
 refine⟨hl,?_⟩
 rcases ho with ho|⟨g,cap,cur,e,hb,hg,hr⟩
 ·exact .inl ho
 ·exact .inr ⟨g,cap,cur,e,hb,h _ _ _ _ hg,hr⟩
theorem zmb {P:Program} (C':Value->zA->Prop) {o:Oper} {a:Act} (w:zA) (s x:Operand) (t:TypeId)
 (ho:o.op=.call {callee:=.builtin .append,args:= #[s,x],argTypes:= #[t,t]})
 (base:Nat) (e:TypeId) (i:TypeInfo) (z:Value) (size bytes:Nat) (ht:P.underlying t=some (.slice e)) (hi:P.info? e=some i) (hz:i.zero=some z)
 (hsize:i.size=size) (hby:i.bytes=bytes) (hzs:z.cells.size=size) (hsz:0<size)
 (v:Value) (n:Nat) (xs:List Value) (hs:a.eval s=v) (hown:w.ownsRow base e size v n xs)
 (ad:Addr) (m c:Nat) (news:List Value) (hx:a.eval x=.slice (some ad) m c) (hl:news.length=m*size) (hnews:∀j u,news[j]? =some u->w.cell? (ad.add j)=some u) (h1:∀u∈news,u.oneCell'=true)
 (h63:n+m<=maxLen) (hbytes:(n+m)*bytes<=140737488355328) (hbase:base<=w.heap.size)
 (h:∀v' w',w'.ownsRow base e size v' (n+m) (xs++news)->w.grownBy w' v.ownBlock->C' v' w'):zfp P C' ((execOp a.eval o).run P w):=by
 obtain⟨v',w',hr,h2,h3,h4⟩:=run_append_own (P:=P) w base t o.type e i z size bytes ht hi hz hsize hby hzs hsz v n xs hown ad m c news hl hnews h1 h63 hbytes hbase
 unfold execOp
 simp only[ho,resolve,invoke,builtin,Sem.run_bind,Sem.run_pure,Result.andThen_ok,List.map_toArray,List.map_cons,List.map_nil,hs,hx,hr]
 exact h v' w' h2 h3
end Go.Proofs.YtpichfafdcfbhaaGreatDoor
namespace Go.Proofs.YtpichfafdcfbhaaGreatDoor
open Go.RowKit Go.Shelf Lib Str Limb
attribute [local go_sem] Oper.semAt_some
theorem zx5:(Tryz.prog.info? 150).map (λi=>(i.zero,i.size,i.bytes))=some (some (.agg #[St [],St []]),2,32):=by kernel_rfl
end Go.Proofs.YtpichfafdcfbhaaGreatDoor
namespace Go.Proofs.YtpichfafdcfbhaaGreatDoor
theorem ztp {n s x:Nat} (hx:0<x) (hs:s*s<=n) (hsx:s<=x):s<=(x+n/x)/2:=by
 obtain⟨d,rfl⟩:∃d,x=s+d:=⟨x-s,by omega⟩
 rw[Nat.le_div_iff_mul_le (by omega)]
 by_cases h:d<=s
 ·obtain⟨e,rfl⟩:∃e,s=d+e:=⟨s-d,by omega⟩
  have h1:e<=n/(d+e+d):=by
   rw[Nat.le_div_iff_mul_le hx]
   refine zO ?_ hs
   have:(d+e)*(d+e)=e*(d+e+d)+d*d:=by
    simp only[Nat.mul_add,Nat.add_mul,yP d e];omega
   omega
  generalize n/(d+e+d)=q at*
  omega
 ·generalize n/(s+d)=q
  omega
theorem zrf {n x:Nat} (hx:0<x) (h:x<=(x+n/x)/2):x*x<=n:=by
 have h2:x<=n/x:=by
  generalize n/x=q at*
  omega
 exact(Nat.le_div_iff_mul_le hx).1 h2
end Go.Proofs.YtpichfafdcfbhaaGreatDoor
namespace Go.Proofs.YtpichfafdcfbhaaGreatDoor
open Go.RowKit Go.Shelf Lib Str Limb
attribute [local go_sem] Oper.semAt_some
theorem w64 {z:Int} (h: -9223372036854775808<=z/\z<=9223372036854775807):wrap64 z=z:=by unfold wrap64;omega
theorem znv {n x q:Nat} (hn:n<1000000000000000000) (hx:1<=x) (hx2:x<=n) (hq:n/x=q):wrap64 ((n:Int)/(x:Int))=(q:Int)/\IntKind.i64.wrap ((x:Int)+(q:Int))=(x:Int)+(q:Int)/\
 wrap64 (((x:Int)+(q:Int))/2)=(((x+q)/2:Nat):Int)/\IntKind.i64.wrap ((x:Int)*2)=((x*2:Nat):Int)/\IntKind.i64.wrap ((n:Int).tdiv (x:Int))=(q:Int)/\IntKind.i64.wrap (((x:Int)+(q:Int)).tdiv 2)=(((x+q)/2:Nat):Int):=by
 have hqn:q<=n:=by rw[<-hq];exact Nat.div_le_self _ _
 have e1:(n:Int)/(x:Int)=(q:Int):=by rw[<-hq];exact(Int.natCast_ediv n x).symm
 have e2:((x:Int)+(q:Int))/2=(((x+q)/2:Nat):Int):=by omega
 have e3:(n:Int).tdiv (x:Int)=(q:Int):=by rw[Int.tdiv_eq_ediv_of_nonneg (by omega)];exact e1
 have e4:((x:Int)+(q:Int)).tdiv 2=(((x+q)/2:Nat):Int):=by rw[Int.tdiv_eq_ediv_of_nonneg (by omega)];exact e2
 refine⟨by rw[e1];exact w64 ⟨by omega,by omega⟩,zI _ ⟨by omega,by omega⟩,by rw[e2];exact w64 ⟨by omega,by omega⟩,?_,by rw[e3];exact zI _ ⟨by omega,by omega⟩,by rw[e4];exact zI _ ⟨by omega,by omega⟩⟩
 rw[zI _ ⟨by omega,by omega⟩];omega
theorem z12 (t:ByteArray) (n s:Nat) (h0:1<=n) (HN:Hid (n<1000000000000000000)) (HS:Hid (s*s<=n/\n<(s+1)*(s+1)))
 (AT:Hid (∀W:zA,qJ 83 #[.string t] W (.tuple #[.int .i64 (n:Int),.nilIface])))
 (IT:Hid (qK 43 #[.int .i64 (s:Int)] (.string ⟨(zD s).toArray⟩))) (w:zA) (HW:Hid (Wd w)):
 qJ 206 #[.string t] w (.tuple #[St (zD s),.int .i64 0]):=by
 go_enter Tryz.func206,Tryz.ntmps206
 go_wp2_with fail
 refine(AT.out w).mono ?_
 rintro e w1 ⟨rfl,hb1⟩
 have HB1:=hid hb1;clear hb1 AT
 go_wp2_with fail
 go_loopw [6] (λi wr=>∃(x:Nat),1<=x/\x<=n/\i=.int .i64 (x:Int)/\Hid (wr=w1))
  (λi _=>n-(zL i).toNat)
 case atStart=>exact⟨1,zN _,h0,rfl,hid rfl⟩
 case round=>
  obtain⟨x,hx,hxn,rfl,hE⟩:=hrel
  obtain rfl:=hE.out.symm
  clear hE
  have hx0:¬x=0:=by omega
  have HQ:=hid (show ∀q,n/x=q->(x<q->x*2<=n)/\(¬x<q->s<=x) from λq hq=>by
   subst hq
   refine⟨λh=>?_,λh=>?_⟩
   ·have h1:x+1<=n/x:=h
    have h2:=(Nat.le_div_iff_mul_le (by omega)).1 h1
    have h3:x*2<=(x+1)*x:=by
     rw[yP x 2];exact Nat.mul_le_mul (by omega) (zN _)
    omega
   ·by_cases c:s<=x
    ·exact c
    ·exfalso
     have h1:n/x<x+1:=by omega
     rw[Nat.div_lt_iff_lt_mul (by omega)] at h1
     have h2:(x+1)*(x+1)<=s*s:=Nat.mul_le_mul (by omega) (by omega)
     have h3:(x+1)*x<=(x+1)*(x+1):=Nat.mul_le_mul (zN _) (by omega)
     have:=HS.out.1
     omega)
  obtain⟨q,hq⟩:∃q,n/x=q:=⟨_,rfl⟩
  have HQ2:=hid (HQ.out q hq)
  obtain⟨f1,f2,f3,f4,f5,f6⟩:=znv HN.out hx hxn hq
  have HQQ:=hid hq
  clear f2 f3 f6 hq HQ
  by_cases hlt:x<q
  ·have hltI:(x:Int)<(q:Int):=by omega
   have hn2:=HQ2.out.1 hlt
   clear hlt HQ2
   go_wp2_with fail
   go_roundw
   case rel=>exact⟨x*2,by omega,hn2,by rfl,hid trivial⟩
   case measure=>simp[zL];omega
  ·have hltI:¬(x:Int)<(q:Int):=by omega
   have hsx:=HQ2.out.2 hlt
   clear hlt HQ2
   go_wp2_with fail
   clear f1 f4 f5 hx0 hltI HQQ
   go_loopw [6] (λi wr=>∃(x:Nat),1<=x/\x<=n/\s<=x/\i=.int .i64 (x:Int)/\Hid (qL w wr))
    (λi _=>(zL i).toNat)
   case atStart=>exact⟨x,hx,hxn,hsx,rfl,HB1⟩
   case round=>
    clear hx hxn hsx
    obtain⟨x,hx,hxn,hsx,rfl,hB⟩:=hrel
    have hx0:¬x=0:=by omega
    obtain⟨q,hq⟩:∃q,n/x=q:=⟨_,rfl⟩
    obtain⟨f1,f2,f3,f4,f5,f6⟩:=znv HN.out hx hxn hq
    have g1:=ztp (by omega) HS.out.1 hsx
    have g2:=zrf (n:=n) (x:=x) (by omega)
    rw[hq] at g1 g2
    have g3:(x+q)/2≥x->x=s:=λh=>by
     have h1:=g2 h
     by_cases c:x<=s
     ·omega
     ·have:=Nat.mul_le_mul (show s+1<=x by omega) (show s+1<=x by omega)
      have:=HS.out.2
      omega
    have G:=hid (⟨g1,g3⟩:_/\_)
    clear g1 g2 g3 hq
    generalize (x+q)/2=y at*
    by_cases hge:x<=y
    ·have hgeI:(x:Int)<=(y:Int):=by omega
     have hxs:=G.out.2 hge
     subst hxs
     have HI:=hid (IT.out wr (HW.out.below hB.out))
     clear hge G
     go_wp2_with fail
     refine HI.out.mono ?_
     rintro e w3 ⟨rfl,hb3⟩
     have HB3:=hid (hB.out.trans (hb3.mono hB.out.size));clear hb3 HI
     go_wp2_with fail
     go_ret2
     exact⟨rfl,HB3.out⟩
    ·have hgeI:¬(x:Int)<=(y:Int):=by omega
     have hsy:=G.out.1
     have hy1:1<=y:=by
      by_cases c:s=0
      ·have:=HS.out.2
       rw[c] at this
       omega
      ·omega
     have hyx:y<x:=by omega
     clear hge G
     go_wp2_with fail
     go_roundw
     case rel=>exact⟨y,hy1,by omega,hsy,by rfl,hB⟩
     case measure=>simp[zL];omega
theorem zyc (n s L K X:Nat) (hK:(L+1)/2=K) (hL:L<=62) (HXK:Hid (X=2^K)) (h2:2<=n) (HN:Hid (n<1000000000000000000)) (HS:Hid (s*s<=n/\n<(s+1)*(s+1))) (HX:Hid (1<=X/\s<=X/\X<=n/\X<=4294967296))
 (BL:Hid (∀W:zA,zC zF 154 #[.int .u64 (n:Int)] W λe w'=>e=.returned (.int .i64 (L:Int))/\w'=W))
 (w:zA):
 zC zF 245 #[.int .i64 (n:Int)] w λe w'=>e=.returned (.int .i64 (s:Int))/\w'=w:=by
 have h2I:¬(n:Int)<2:=by omega
 have hu:IntKind.u64.wrap (n:Int)=(n:Int):=by have:=HN.out;unfold IntKind.wrap;simp[IntKind.signed,IntKind.bits];omega
 have hl1:wrap64 ((L:Int)+1)=(L:Int)+1:=by unfold wrap64;omega
 have hl2:wrap64 (((L:Int)+1).tdiv 2)=(K:Int):=by rw[Int.tdiv_eq_ediv_of_nonneg (by omega)];unfold wrap64;omega
 have hl3:wrap64 (((L:Int)+1)/2)=(K:Int):=by unfold wrap64;omega
 go_enter Tryz.func245,Tryz.ntmps245
 go_wp2_with fail
 refine(BL.out w).mono ?_
 rintro e w1 ⟨rfl,rfl⟩
 go_wp2_with fail
 have hB0:w1=w1:=rfl
 clear hu hl1 hl2 hl3 BL h2I hB0
 go_loopw [3] (λi wr=>∃(x:Nat),1<=x/\s<=x/\x<=n/\i=.int .i64 (x:Int)/\Hid (wr=w1))
  (λi _=>(zL i).toNat)
 case atStart=>
  obtain⟨x1,x2,x3,x4⟩:=HX.out
  refine⟨X,x1,x2,x3,?_,hid rfl⟩
  have e:((X:Nat):Int)=2^K:=by rw[HXK.out];simp
  rw[hK,<-e]
  congr 1
  exact w64 ⟨by omega,by omega⟩
 case round=>
  obtain⟨x,hx,hsx,hxn,rfl,hE⟩:=hrel
  obtain rfl:=hE.out.symm
  clear hE
  have hx0:¬x=0:=by omega
  obtain⟨q,hq⟩:∃q,n/x=q:=⟨_,rfl⟩
  obtain⟨f1,f2,f3,f4,f5,f6⟩:=znv HN.out hx hxn hq
  have g1:=ztp (by omega) HS.out.1 hsx
  have g2:=zrf (n:=n) (x:=x) (by omega)
  rw[hq] at g1 g2
  have g3:(x+q)/2≥x->x=s:=λh=>by
   have h1:=g2 h
   by_cases c:x<=s
   ·omega
   ·have:=Nat.mul_le_mul (show s+1<=x by omega) (show s+1<=x by omega)
    have:=HS.out.2
    omega
  have G:=hid (⟨g1,g3⟩:_/\_)
  clear g1 g2 g3 hq
  generalize (x+q)/2=y at*
  by_cases hge:x<=y
  ·have hgeI:(x:Int)<=(y:Int):=by omega
   have hxs:=G.out.2 hge
   subst hxs
   clear hge G
   go_wp2_with fail
   go_ret
   exact⟨rfl,rfl⟩
  ·have hgeI:¬(x:Int)<=(y:Int):=by omega
   have hsy:=G.out.1
   have hy1:1<=y:=by
    by_cases c:s=0
    ·have:=HS.out.2
     rw[c] at this
     omega
    ·omega
   have hyx:y<x:=by omega
   clear hge G
   go_wp2_with fail
   go_roundw
   case rel=>exact⟨y,hy1,hsy,by omega,by rfl,hid trivial⟩
   case measure=>simp[zL];omega
theorem zsi:∀(f x:Nat),0<x->x<2^f->2^(bitLenAux f x-1)<=x/\x<2^bitLenAux f x/\1<=bitLenAux f x
 |0,x,h,k=>by simp at k;omega
 |f+1,x,h,k=>by
  unfold bitLenAux
  rw[if_neg (by omega)]
  by_cases c:x=1
  ·subst c
   cases f with
   |zero=>simp[bitLenAux]
   |succ f=>simp[bitLenAux]
  ·have h2:0<x/2:=by omega
   obtain⟨i1,i2,i3⟩:=zsi f (x/2) h2 (by rw[yO] at k;omega)
   generalize bitLenAux f (x/2)=L at*
   refine⟨?_,?_,by omega⟩
   ·obtain⟨m,rfl⟩:∃m,L=m+1:=⟨L-1,by omega⟩
    rw[show 1+(m+1)-1=m+1 by omega,yO]
    rw[show m+1-1=m by omega] at i1
    omega
   ·rw[Nat.add_comm,yO];omega
theorem ztm (n s:Nat) (hn:n<1000000000000000000) (hs:s*s<=n/\n<(s+1)*(s+1)) (w:zA):
 zC zF 245 #[.int .i64 (n:Int)] w λe w'=>e=.returned (.int .i64 (s:Int))/\w'=w:=by
 by_cases h2:2<=n
 ·obtain⟨b1,b2,b3⟩:=zsi 64 n (by omega) (by omega)
  have hbl:=λW=>Tryz.bits_Len (n:Int) W (by omega) (by omega)
  rw[Int.toNat_natCast] at hbl
  change ∀W:zA,zC zF 154 #[.int .u64 (n:Int)] W λe w'=>e=.returned (.int .i64 ((bitLenAux 64 n:Nat):Int))/\w'=W at hbl
  generalize bitLenAux 64 n=L at*
  have hL62:L<=62:=by
   by_cases c:L<=62
   ·exact c
   ·have:2^62<=2^(L-1):=yF (by omega) (by omega)
    omega
  have hL2:2<=L:=by
   by_cases c:2<=L
   ·exact c
   ·have:L=1:=by omega
    subst this;omega
  refine zyc n s L ((L+1)/2) (2^((L+1)/2)) rfl hL62 (hid rfl) h2 (hid hn) (hid hs) (hid ⟨yS (by simp),?_,?_,?_⟩) (hid hbl) w
  ·by_cases c:s<=2^((L+1)/2)
   ·exact c
   ·exfalso
    have h1:=Nat.mul_le_mul (show 2^((L+1)/2)<=s by omega) (show 2^((L+1)/2)<=s by omega)
    rw[<-Nat.pow_add] at h1
    have:2^L<=2^((L+1)/2+(L+1)/2):=yF (by omega) (by omega)
    omega
  ·exact zO (yF (by omega) (by omega)) b1
  ·have:2^((L+1)/2)<=2^32:=yF (by omega) (by omega)
   omega
 ·have hlt:(n:Int)<2:=by omega
  have hns:n=s:=by
   by_cases c:n=0
   ·subst c
    by_cases d:s=0
    ·omega
    ·have:=Nat.mul_pos (show 0<s by omega) (show 0<s by omega);omega
   ·have h1:n=1:=by omega
    subst h1
    by_cases d:s=1
    ·omega
    ·by_cases d0:s=0
     ·subst d0;omega
     ·have:=Nat.mul_le_mul (show 2<=s by omega) (show 2<=s by omega);omega
  subst hns
  clear hs hn h2
  go_enter Tryz.func245,Tryz.ntmps245
  go_wp2_with fail
  go_ret
  exact⟨rfl,rfl⟩
theorem z7e {n s k:Nat} (hs:s*s<=n) (hn:n<10^(2*k)):s<=10^k:=by
 by_cases c:s<=10^k
 ·exact c
 ·exfalso
  have:=Nat.mul_le_mul (show 10^k<=s by omega) (show 10^k<=s by omega)
  rw[<-Nat.pow_add,show k+k=2*k by omega] at this
  omega
theorem z4b:(zaa B9 2).map I=[I 2]:=by
 rw[<-zwd (r:=2) (by decide)];rfl
theorem z6c (W:zA):Sl (W.alloc (.cells #[I 2] 3)) (.slice (some ⟨W.heap.size,0,none⟩) 1 1) ((zaa B9 2).map I):=by
 rw[z4b]
 refine⟨some ⟨W.heap.size,0,none⟩,1,rfl,zN _,λi x hx=>⟨W.heap.size,0,rfl,?_⟩⟩
 have A:=zG W (.cells #[I 2] 3)
 match i,hx with
 |0,hx=>exact(zJ A 0).trans (by rw[<-hx];rfl)
 |_+1,hx=>cases hx
theorem z7f (t z y:ByteArray) (n s k X:Nat) (HS:Hid (s*s<=n/\n<(s+1)*(s+1))) (hn1:1<=n) (hX:1<=X) (hsX:s<=X) (HL:Hid ((zaa B9 n).length<=400/\(zaa B9 X).length<=400/\(zaa B9 (X+n)).length<=400))
 (ht0:0<t.size) (h45:(((t[0]'ht0).toNat:Int)==45)=false) (h48:(t.toList==[48])=false) (hsz:¬(t.size:Int)<=18) (hsz2:t.size<=1000) (hk:(t.size+1)/2=k)
 (CK:Hid (∀W:zA,qJ 82 #[.string t] W (.int .i64 0)))
 (RD:Hid (∀W:zA,zC zF 44 #[.string t] W λe w'=>∃v,e=.returned (.agg #[.bool false,v])/\Sl w' v ((zaa B9 n).map I)/\Below W.heap.size W w'))
 (RP:Hid (∀W:zA,qJ 123 #[.string ⟨#[48]⟩,.int .i64 (k:Int)] W (.string z)))
 (RX:Hid (∀W:zA,zC zF 44 #[.string y] W λe w'=>∃v,e=.returned (.agg #[.bool false,v])/\Sl w' v ((zaa B9 X).map I)/\Below W.heap.size W w'))
 (hzs:z.size<=1000) (hy:(⟨#[49]⟩:ByteArray)++z=y) (hr:digs (s:Int)<=300) (w:zA) (HW:Hid (Wd w)):
 qJ 149 #[.string t] w (.tuple #[St (zD s),.int .i64 0]):=by
 have hfd:=znj
 have q1:IntKind.i64.wrap ((t.size:Int)+1)=(t.size:Int)+1:=zI _ ⟨by omega,by omega⟩
 have HKI:=hid (show((t.size:Int)+1)/2=(k:Int) by omega)
 have HK:=hid hk
 have HY:=hid hy
 clear hk hy
 go_enter Tryz.func149,Tryz.ntmps149
 go_wp2_with fail
 refine(CK.out w).mono ?_
 rintro e w1 ⟨rfl,hb1⟩
 have HB1:=hid hb1;clear hb1 CK
 go_wp2_with fail
 refine(RD.out w1).mono ?_
 rintro e w2 ⟨vn,rfl,hvn,hb2⟩
 obtain⟨pn,kn,cn,rfl, -⟩:=zbx hvn
 have HB2:=qT HB1 hb2;clear hb2 HB1 RD
 have HVN:=hid hvn;clear hvn
 go_wp2_with fail
 simp only[HKI.out]
 refine(RP.out w2).mono ?_
 rintro e w3 ⟨rfl,hb3⟩
 have HB3:=qT HB2 hb3
 have HVN3:=hid (HVN.out.below hb3);clear hb3 HB2 HVN RP
 go_wp2_with fail
 try rw[HY.out]
 refine(RX.out w3).mono ?_
 rintro e w4 ⟨vx,rfl,hvx,hb4⟩
 obtain⟨px,kx,cx,rfl, -⟩:=zbx hvx
 have HB4:=qT HB3 hb4
 have HVN4:=hid (HVN3.out.below hb4);clear hb4 HB3 HVN3 RX
 have HVX:=hid hvx;clear hvx
 clear q1 h45 h48 hsz hsz2
 have HT2:=hid (λW=>z6c W)
 go_wp2_with fail
 go_loopg [6] X (λk0 vx wr=>∃(x:Nat) (p:Option Addr) (a c:Nat),Hid (k0=x)/\1<=x/\s<=x/\Hid (x<=X)/\vx=.slice p a c/\Hid (Sl wr (.slice p a c) ((zaa B9 x).map I))/\Hid (Sl wr (.slice pn kn cn) ((zaa B9 n).map I))/\Hid (qL w wr))
 case atStart=>exact⟨X,px,kx,cx,hid rfl,hX,hsX,hid (zN _),rfl,HVX,HVN4,HB4⟩
 case round=>
  clear hX hsX
  obtain⟨x,p,a,c,hk0,hx,hsx,hxX,rfl,hvx,hvn,hB⟩:=hrel
  obtain⟨l1,l2,l3⟩:=HL.out
  have m1:(zaa B9 x).length<=400:=zO (zd6 (by decide) hxX.out) l2
  have hq:n/x<=n:=Nat.div_le_self _ _
  have m2:(zaa B9 (n/x)).length<=400:=zO (zd6 (by decide) hq) l1
  have m3:(zaa B9 (x+n/x)).length<=400:=zO (zd6 (by decide) (by have:=hxX.out;omega)) l3
  have m4:(zaa B9 ((x+n/x)/2)).length<=400:=zO (zd6 (by decide) (Nat.div_le_self _ _)) m3
  have m5:(zaa B9 2).length<=400:=by have:=congrArg List.length z4b;simp at this;omega
  have g1:=ztp (by omega) HS.out.1 hsx
  have g2:=zrf (n:=n) (x:=x) (by omega)
  have g3:x<=(x+n/x)/2->x=s:=λh=>by
   have h1:=g2 h
   by_cases c:x<=s
   ·omega
   ·have:=Nat.mul_le_mul (show s+1<=x by omega) (show s+1<=x by omega)
    have:=HS.out.2
    omega
  have hs1:1<=s\/(x+n/x)/2≥0:=.inr (Nat.zero_le _)
  have HDV:=hid (znf _ _ n x wr hvn.out hvx.out (by omega) (by omega) (by omega))
  have G:=hid (⟨g1,g3⟩:_/\_)
  have M:=hid (⟨m1,m2,m3,m4,m5⟩:_/\_/\_/\_/\_)
  clear l1 l2 l3 m1 m2 m3 m4 m5 hq g1 g2 g3 hs1
  go_wp2_with fail
  refine HDV.out.mono ?_
  rintro e w5 ⟨v1,v2,rfl,hs1,hs2,hb5⟩
  obtain⟨p1,k1,c1,rfl, -⟩:=zbx hs1
  have HB5:=hid (hB.out.trans (hb5.mono hB.out.size))
  have HVX5:=hid (hvx.out.below hb5);have HVN5:=hid (hvn.out.below hb5)
  have HPL:=hid (z09 _ _ x (n/x) w5 HVX5.out hs1 (by have:=M.out.1;omega) (by have:=M.out.2.1;omega))
  clear hs1 hs2 hb5 hB hvx hvn HDV
  go_wp2_with fail
  refine HPL.out.mono ?_
  rintro e w6 ⟨p2,k2,c2,rfl,hs2,hb6⟩
  have HB6:=qT HB5 hb6
  have hal:qL w6 (w6.alloc (.cells #[I 2] 3)):=(zM _ w6).alloc (zN _) _
  have HVX6:=hid ((HVX5.out.below hb6).below hal);have HVN6:=hid ((HVN5.out.below hb6).below hal)
  have HD2:=hid (znf _ _ (x+n/x) 2 (w6.alloc (.cells #[I 2] 3)) (hs2.below hal) (z6c w6) (by have:=M.out.2.2.1;omega) (by have:=M.out.2.2.2.2;omega) (by omega))
  have HB6':=qT HB6 hal
  clear hs2 hb6 hal HB5 HVX5 HVN5 HPL
  go_wp2_with fail
  refine HD2.out.mono ?_
  rintro e w7 ⟨v3,v4,rfl,hs3,hs4,hb7⟩
  obtain⟨p3,k3,c3,rfl, -⟩:=zbx hs3
  have HB7:=hid (HB6'.out.trans (hb7.mono HB6'.out.size))
  have HVX7:=hid (HVX6.out.below hb7);have HVN7:=hid (HVN6.out.below hb7)
  have HS3:=hid hs3
  have HCM:=hid (zi9 _ _ ((x+n/x)/2) x w7 hs3 HVX7.out (by have:=M.out.2.2.2.1;omega) (by have:=M.out.1;omega))
  clear hs3 hs4 hb7 HB6 HB6' HVX6 HVN6 HD2
  generalize (x+n/x)/2=y at*
  go_wp2_with fail
  refine HCM.out.mono ?_
  rintro e w8 ⟨cc,rfl,⟨hc1,hc2⟩,hb8⟩
  have HB8:=qT HB7 hb8
  have HVX8:=hid (HVX7.out.below hb8);have HVN8:=hid (HVN7.out.below hb8);have HS8:=hid (HS3.out.below hb8)
  clear hb8 HB7 HVX7 HVN7 HS3 HCM
  by_cases hge:x<=y
  ·have hcI:(0:Int)<=cc:=by omega
   have hxs:=G.out.2 hge
   have hres:=zez false _ x w8 (HW.out.below HB8.out) HVX8.out (by have:=M.out.1;omega)
   rw[zkw,hxs,zcf hr,zcg hr,Str.zad] at hres
   have HRES:=hid hres
   clear hge G hc1 hc2 hres hxs
   go_wp2_with fail
   refine HRES.out.mono ?_
   rintro e w9 ⟨rfl,hb9⟩
   have HB9':=qT HB8 hb9;clear hb9 HRES
   go_wp2_with fail
   go_ret2
   exact⟨rfl,HB9'.out⟩
  ·have hcI:¬(0:Int)<=cc:=by omega
   have hsy:=G.out.1
   have hy1:1<=y:=by
    by_cases c0:s=0
    ·have h1:=HS.out.2
     rw[c0] at h1
     omega
    ·omega
   have hyX:y<=X:=by have:=hxX.out;omega
   have HYX:=hid (show y<x by omega)
   clear hge G hc1 hc2
   go_wp2_with fail
   go_roundg y
   case measure=>rw[hk0.out];exact HYX.out
   case rel=>exact⟨y,p3,k3,c3,hid rfl,hy1,hsy,hid hyX,rfl,HS8,HVN8,HB8⟩
theorem z6p (t:ByteArray) (n s:Nat) (ht0:0<t.size) (h45:(((t[0]'ht0).toNat:Int)==45)=false) (h48:(t.toList==[48])=false) (hsz:(t.size:Int)<=18)
 (CK:Hid (∀W:zA,qJ 82 #[.string t] W (.int .i64 0)))
 (RD:Hid (∀W:zA,zC zF 44 #[.string t] W λe w'=>∃v,e=.returned (.agg #[.bool false,v])/\Sl w' v ((zaa B9 n).map I)/\Below W.heap.size W w'))
 (SR:Hid (qK 206 #[.string t] (.tuple #[St (zD s),.int .i64 0]))) (w:zA) (HW:Hid (Wd w)):
 qJ 149 #[.string t] w (.tuple #[St (zD s),.int .i64 0]):=by
 have hfd:=znj
 go_enter Tryz.func149,Tryz.ntmps149
 go_wp2_with fail
 refine(CK.out w).mono ?_
 rintro e w1 ⟨rfl,hb1⟩
 have HB1:=hid hb1;clear hb1 CK
 go_wp2_with fail
 refine(RD.out w1).mono ?_
 rintro e w2 ⟨vn,rfl,hvn,hb2⟩
 obtain⟨pn,kn,cn,rfl, -⟩:=zbx hvn
 have HB2:=qT HB1 hb2;clear hb2 HB1 RD hvn
 go_wp2_with fail
 refine(SR.out w2 (HW.out.below HB2.out)).mono ?_
 rintro e w3 ⟨rfl,hb3⟩
 have HB3:=qT HB2 hb3;clear hb3
 go_wp2_with fail
 go_ret2
 exact⟨rfl,HB3.out⟩
theorem z7g (t:ByteArray) (ht0:0<t.size) (h45:(((t[0]'ht0).toNat:Int)==45)=false) (h48:(t.toList==[48])=true)
 (CK:Hid (∀W:zA,qJ 82 #[.string t] W (.int .i64 0))) (w:zA):
 qJ 149 #[.string t] w (.tuple #[.string t,.int .i64 0]):=by
 go_enter Tryz.func149,Tryz.ntmps149
 go_wp2_with fail
 refine(CK.out w).mono ?_
 rintro e w1 ⟨rfl,hb1⟩
 have HB1:=hid hb1;clear hb1 CK
 go_wp2_with fail
 go_ret2
 exact⟨rfl,HB1.out⟩
theorem z13:∀k:Nat,zD (10^k)=49::List.replicate k 48
 |0=>by show zD 1=[49];rw[zae (by omega)];rfl
 |k+1=>by
  have:=zi4 (n:=10^k) (d:=0) (yS (by simp)) (by omega)
  rw[Nat.add_zero,yP,<-yO,z13 k] at this
  rw[this,List.replicate_succ'];rfl
theorem z7h (a b:List UInt8):((⟨a.toArray⟩:ByteArray)++(⟨b.toArray⟩:ByteArray))=⟨(a++b).toArray⟩:=by
 apply ByteArray.ext
 rw[ByteArray.data_append]
 simp
theorem zvx (n s:Nat) (hs:s*s<=n/\n<(s+1)*(s+1)) (hl:(zD n).length<=200) (w:zA) (hw:Wd w):
 qJ 149 #[St (zD n)] w (.tuple #[St (zD s),.int .i64 0]):=by
 obtain⟨t,ht⟩:∃t:ByteArray,t=⟨(zD n).toArray⟩:=⟨_,rfl⟩
 obtain⟨s1,s2,s3,s4⟩:=zco _ (zci n) t ht
 obtain⟨c,r,hd,hc1,hc2⟩:=dec_head n
 have h45:(((t[0]'s2).toNat:Int)==45)=false:=by
  rw[beq_eq_false_iff_ne,s4 s2]
  simp only[hd,List.head_cons];omega
 have ck:∀W:zA,qJ 82 #[.string t] W (.int .i64 0):=λW=>by
  have:=zl4 (n:Int) (by unfold digs;rw[Int.natAbs_natCast];omega) W
  rw[Str.zad] at this
  rw[ht];exact this
 have rd:∀W:zA,zC zF 44 #[.string t] W λe w'=>∃v,e=.returned (.agg #[.bool false,v])/\Sl w' v ((zaa B9 n).map I)/\Below W.heap.size W w':=λW=>by
  have:=zc3 (n:Int) W (by unfold digs;rw[Int.natAbs_natCast];omega)
  rw[Str.zad,decide_eq_false (by omega),Int.natAbs_natCast] at this
  rw[ht];exact this
 show zC _ _ #[.string ⟨(zD n).toArray⟩] _ _
 rw[<-ht]
 by_cases h0:n=0
 ·have hs0:s=0:=by
   by_cases d:s=0
   ·exact d
   ·have:=Nat.mul_pos (show 0<s by omega) (show 0<s by omega);omega
  have h48:(t.toList==[48])=true:=by rw[ht,ByteArray.toList_eq,h0,zae (by omega)];rfl
  have:=z7g t s2 h45 h48 (hid ck) w
  rw[hs0]
  rw[show St (zD 0)=.string t by rw[ht,h0]]
  exact this
 ·have h48:(t.toList==[48])=false:=zhl ht 0 (by omega) h0
  by_cases hsm:(zD n).length<=18
  ·have hn18:n<1000000000000000000:=(zaf n 18 (by omega)).1 hsm
   refine z6p t n s s2 h45 h48 (by omega) (hid ck) (hid rd) (hid λW hW=>?_) w (hid hw)
   refine z12 t n s (by omega) (hid hn18) (hid hs) (hid λW=>?_) (hid λW hW=>?_) W (hid hW)
   ·have:=znc (n:Int) (by rw[Str.zad];exact hsm) W
    rw[Str.zad] at this
    rw[ht];exact this
   ·have hsn:s<=n:=zO (Nat.le_mul_self s) hs.1
    have:=zb3 (s:Int) (by omega) (by omega) W hW
    rw[Str.zad] at this
    exact this
  ·obtain⟨k,hk⟩:∃k,(t.size+1)/2=k:=⟨_,rfl⟩
   have hn2:n<10^(2*k):=(zaf n (2*k) (by omega)).1 (by omega)
   have hk2:k<=101:=by omega
   have hX:=z7e hs.1 hn2
   have hrep:=λW=>Tryz.strings_Repeat ⟨#[48]⟩ k W (by omega) (by show 1*k<=_;omega)
   have b9:∀m,m<10^250->(zaa B9 m).length<=400:=λm hm=>zO (zfv (k:=28) (by decide) (Nat.lt_of_lt_of_le hm (by decide+kernel))) (by omega)
   have n200:n<10^200:=(zaf n 200 (by omega)).1 hl
   have x101:10^k<=10^101:=yF (by omega) hk2
   have p1:(10:Nat)^200+10^101<=10^250:=by decide+kernel
   have y1:(⟨#[49]⟩:ByteArray)++⟨(Lib.repeatL [48] k).toArray⟩=⟨(zD (10^k)).toArray⟩:=by
    rw[z13,zhy]
    exact z7h [49] (List.replicate k 48)
   refine z7f t ⟨(Lib.repeatL [48] k).toArray⟩ ⟨(zD (10^k)).toArray⟩ n s k (10^k) (hid hs) (by omega) (yS (by simp)) hX (hid ⟨b9 _ (by omega),b9 _ (by omega),b9 _ (by omega)⟩) s2 h45 h48 (by omega) (by omega) hk (hid ck) (hid rd) (hid hrep) (hid λW=>?_) ?_ y1 ?_ w (hid hw)
   ·have hx2:10^k<10^102:=Nat.pow_lt_pow_right (by omega) (by omega)
    have:=zc3 ((10^k:Nat):Int) W (by unfold digs;rw[Int.natAbs_natCast];exact zO ((zaf _ 102 (by omega)).2 hx2) (by omega))
    rw[Str.zad,decide_eq_false (by omega),Int.natAbs_natCast] at this
    exact this
   ·show(Lib.repeatL [48] k).toArray.size<=1000
    rw[zhy];simp;omega
   ·unfold digs
    rw[Int.natAbs_natCast]
    exact zO ((zaf _ 102 (by omega)).2 (Nat.lt_of_le_of_lt (zO hX x101) (Nat.pow_lt_pow_right (by omega) (by omega)))) (by omega)
theorem z6d (x y:Int) (hx:digs x<=300) (hy:digs y<=300) (hxy:digs (x*y)<=300) (w:zA) (hw:Wd w):
 qJ 201 #[St (itoa x),St (itoa y)] w (St (itoa (x*y))):=by
 have hc:=zhk x y hx hy w hw
 rw[zcf hxy,zcg hxy] at hc
 generalize itoa (x*y)=z at*
 have HC:=hid hc;clear hc
 go_enter Tryz.func201,Tryz.ntmps201
 go_wp2_with fail
 refine HC.out.mono ?_
 rintro e w1 ⟨rfl,hb⟩
 go_wp2_with fail
 go_ret
 exact⟨rfl,hb⟩
theorem z7j (n:Nat) (hl:17<(zD n).length) (w:zA):
 qJ 199 #[St (zD n)] w (.tuple #[.int .i64 0,.bool false]):=by
 obtain⟨t,ht⟩:∃t:ByteArray,t=⟨(zD n).toArray⟩:=⟨_,rfl⟩
 have h17:(17:Int)<(t.size:Int):=by rw[ht];show(17:Int)<((zD n).toArray.size:Int);simp;omega
 show zC _ _ #[.string ⟨(zD n).toArray⟩] _ _
 rw[<-ht]
 clear ht hl
 go_enter Tryz.func199,Tryz.ntmps199
 go_wp2_with fail
 go_ret2
 exact⟨rfl,zM _ _⟩
theorem z5v (t r:ByteArray) (n s m:Nat) (b:Bool) (hm:IntKind.i64.wrap ((s:Int)*(s:Int))=(m:Int)) (hb:((m:Int)==(n:Int))=b)
 (NT:Hid (qK 199 #[.string t] (.tuple #[.int .i64 (n:Int),.bool true])))
 (NR:Hid (∀W:zA,zC zF 245 #[.int .i64 (n:Int)] W λe w'=>e=.returned (.int .i64 (s:Int))/\w'=W))
 (IT:Hid (qK 43 #[.int .i64 (s:Int)] (.string r))) (w:zA) (HW:Hid (Wd w)):
 qJ 203 #[.string t] w (.tuple #[.string r,.bool b]):=by
 go_enter Tryz.func203,Tryz.ntmps203
 go_wp2_with fail
 refine(NT.out w HW.out).mono ?_
 rintro e w1 ⟨rfl,hb1⟩
 have HB1:=hid hb1;clear hb1 NT
 go_wp2_with fail
 refine(NR.out w1).mono ?_
 rintro e w2 ⟨rfl,hw2⟩
 obtain rfl:=hw2.symm
 clear hw2
 go_wp2_with fail
 refine(IT.out w1 (HW.out.below HB1.out)).mono ?_
 rintro e w3 ⟨rfl,hb3⟩
 have HB3:=qT HB1 hb3;clear hb3
 go_wp2_with fail
 go_ret2
 exact⟨rfl,HB3.out⟩
theorem z7k (t r q:ByteArray) (b:Bool) (hb:(q.toList==t.toList)=b)
 (NT:Hid (∀W:zA,qJ 199 #[.string t] W (.tuple #[.int .i64 0,.bool false])))
 (NR:Hid (qK 149 #[.string t] (.tuple #[.string r,.int .i64 0])))
 (MU:Hid (qK 201 #[.string r,.string r] (.string q))) (w:zA) (HW:Hid (Wd w)):
 qJ 203 #[.string t] w (.tuple #[.string r,.bool b]):=by
 go_enter Tryz.func203,Tryz.ntmps203
 go_wp2_with fail
 refine(NT.out w).mono ?_
 rintro e w1 ⟨rfl,hb1⟩
 have HB1:=hid hb1;clear hb1 NT
 go_wp2_with fail
 refine(NR.out w1 (HW.out.below HB1.out)).mono ?_
 rintro e w2 ⟨rfl,hb2⟩
 have HB2:=qT HB1 hb2;clear hb2 HB1 NR
 go_wp2_with fail
 refine(MU.out w2 (HW.out.below HB2.out)).mono ?_
 rintro e w3 ⟨rfl,hb3⟩
 have HB3:=qT HB2 hb3;clear hb3
 go_wp2_with fail
 go_ret2
 exact⟨rfl,HB3.out⟩
theorem z6f {n s:Nat} (h:s*s<=n):s<=n:=zO (Nat.le_mul_self s) h
theorem zt9 {m n:Nat} (h:m<=n):(zD m).length<=(zD n).length:=by
 have:=(zaf n (zD n).length (List.length_pos_iff.2 (zci n))).1 (zN _)
 exact(zaf m _ (List.length_pos_iff.2 (zci n))).2 (Nat.lt_of_le_of_lt h this)
theorem z4y (n s:Nat) (hs:s*s<=n/\n<(s+1)*(s+1)) (hl:(zD n).length<=190) (w:zA) (hw:Wd w):
 qJ 203 #[St (zD n)] w (.tuple #[St (zD s),.bool (decide (s*s=n))]):=by
 have hsn:=z6f hs.1
 by_cases h17:(zD n).length<=17
 ·have hn17:n<100000000000000000:=(zaf n 17 (by omega)).1 h17
  have hss:=hs.1
  refine z5v _ _ n s (s*s) _ (by rw[<-Int.natCast_mul];exact zI _ (by omega)) ?_ (hid λW hW=>zk7 n h17 W hW) (hid λW=>ztm n s (by omega) hs W) (hid λW hW=>?_) w (hid hw)
  ·rw[Bool.eq_iff_iff,beq_iff_eq,decide_eq_true_iff];omega
  ·have:=zb3 (s:Int) (by omega) (by omega) W hW
   rw[Str.zad] at this
   exact this
 ·have l1:digs (s:Int)<=190:=by rw[zd9];exact zO (zt9 hsn) hl
  have l2:digs ((s:Int)*(s:Int))<=190:=by rw[<-Int.natCast_mul,zd9];exact zO (zt9 hs.1) hl
  refine z7k _ ⟨(zD s).toArray⟩ ⟨(zD (s*s)).toArray⟩ _ ?_ (hid λW=>z7j n (by omega) W) (hid λW hW=>zvx n s hs (by omega) W hW) (hid λW hW=>?_) w (hid hw)
  ·rw[ByteArray.toList_eq,ByteArray.toList_eq,Bool.eq_iff_iff,beq_iff_eq,decide_eq_true_iff]
   exact⟨λh=>zfk (by simpa using h),λh=>by rw[h]⟩
  ·have:=z6d (s:Int) (s:Int) (by omega) (by omega) (by omega) W hW
   rw[<-Int.natCast_mul,Str.zad,Str.zad] at this
   exact this
theorem zhe (n:Nat):numS (n:Rat)=zD n:=by
 have:=zha (n:Int)
 rw[Str.zad] at this
 rw[<-this];rfl
theorem zrg {n k:Nat} (hk:0<k) (h:(zD n).length<=k):sz (n:Rat) k:=by
 have h1:=(zaf n k hk).1 h
 have:10^1<=10^k:=yF (by omega) hk
 exact⟨by show((n:Int)).natAbs<_;rw[Int.natAbs_natCast];exact h1,by show 1<_;omega⟩
theorem z5x (n d:Nat) (hd:0<d) (h1:(zD n).length<=140) (h2:(zD d).length<=140) (w:zA) (hw:Wd w):
 qJ 204 #[St (zD n),St (zD d)] w (St (numS ((n:Rat)/(d:Rat)))):=by
 have hc:=zoj (n:Rat) (d:Rat) (by
  intro h
  have:d=0:=by exact_mod_cast h
  omega) 140 140 (by omega) (by omega) (by omega) (zrg (by omega) h1) (zrg (by omega) h2) w hw
 rw[zhe,zhe] at hc
 generalize numS ((n:Rat)/(d:Rat))=z at*
 have HC:=hid hc;clear hc
 go_enter Tryz.func204,Tryz.ntmps204
 go_wp2_with fail
 refine HC.out.mono ?_
 rintro e w1 ⟨rfl,hb⟩
 go_wp2_with fail
 go_ret
 exact⟨rfl,hb⟩
theorem z4z (u v r1 r2 f:ByteArray) (b1 b2:Bool)
 (E1:Hid (qK 203 #[.string u] (.tuple #[.string r1,.bool b1])))
 (E2:Hid (qK 203 #[.string v] (.tuple #[.string r2,.bool b2])))
 (FR:Hid (b1=true->b2=true->qK 204 #[.string r1,.string r2] (.string f))) (w:zA) (HW:Hid (Wd w)):
 qJ 147 #[.agg #[.string u,.string v]] w (.tuple #[.string (if(b1&&b2)=true then f else⟨#[]⟩),.bool (b1&&b2)]):=by
 obtain⟨W1,hW1⟩:∃W1,W1=w.alloc (.cells #[.string u,.string v] 183):=⟨_,rfl⟩
 have hb1:qL w W1:=by rw[hW1];exact(zM _ w).alloc (zN _) _
 have A:W1.heap[w.heap.size]? =some (.cells #[.string u,.string v] 183 (0,0)):=by rw[hW1];exact zG w _
 have a0:W1.cell? ⟨w.heap.size,0,none⟩=some (.string u):=by rw[zJ A];rfl
 have a1:W1.cell? ⟨w.heap.size,1,none⟩=some (.string v):=by rw[zJ A];rfl
 have HA:=hid (⟨a0,a1⟩:W1.cell? ⟨w.heap.size,0,none⟩=some (.string u)/\W1.cell? ⟨w.heap.size,1,none⟩=some (.string v))
 have HB:=hid hb1
 rw[hW1] at a0 a1
 have HW1:=hid hW1
 clear hW1 hb1 A
 go_enter Tryz.func147,Tryz.ntmps147
 go_wp2_with fail
 rw[<-HW1.out]
 refine(E1.out W1 (HW.out.below HB.out)).mono ?_
 rintro e w2 ⟨rfl,hb2⟩
 have HB2:=qT HB hb2
 have g0:=(zac hb2).cell HA.out.1;have g1:=(zac hb2).cell HA.out.2
 clear hb2 a0 a1
 go_wp2_with fail
 refine(E2.out w2 (HW.out.below HB2.out)).mono ?_
 rintro e w3 ⟨rfl,hb3⟩
 have HB3:=qT HB2 hb3
 clear hb3 g0 g1
 cases b1
 ·go_wp2_with fail
  all_goals first|exact(zzU ‹_›).elim|skip
  go_ret2
  exact⟨rfl,HB3.out⟩
 ·cases b2
  ·go_wp2_with fail
   all_goals first|exact(zzU ‹_›).elim|skip
   go_ret2
   exact⟨rfl,HB3.out⟩
  ·have HF:=hid (FR.out rfl rfl w3 (HW.out.below HB3.out))
   go_wp2_with fail
   all_goals first|exact(zzU ‹_›).elim|skip
   refine HF.out.mono ?_
   rintro e w4 ⟨rfl,hb4⟩
   have HB4:=qT HB3 hb4
   clear hb4
   go_wp2_with fail
   go_ret2
   exact⟨rfl,HB4.out⟩
theorem z6q (n d sn sd:Nat) (hd:0<d) (hn:sn*sn<=n/\n<(sn+1)*(sn+1)) (hd2:sd*sd<=d/\d<(sd+1)*(sd+1)) (h1:(zD n).length<=190) (h2:(zD d).length<=190) (w:zA) (hw:Wd w):
 qJ 147 #[.agg #[St (zD n),St (zD d)]] w (.tuple #[.string (if(decide (sn*sn=n)&&decide (sd*sd=d))=true then⟨(numS ((sn:Rat)/(sd:Rat))).toArray⟩ else⟨#[]⟩),.bool (decide (sn*sn=n)&&decide (sd*sd=d))]):=by
 refine z4z _ _ ⟨(zD sn).toArray⟩ ⟨(zD sd).toArray⟩ _ _ _ (hid λW hW=>z4y n sn hn h1 W hW) (hid λW hW=>z4y d sd hd2 h2 W hW) (hid λ_ hb W hW=>?_) w (hid hw)
 have hsd:0<sd:=by
  by_cases c:sd=0
  ·have:=hd2.2;rw[c] at this;omega
  ·omega
 have half:∀s m:Nat,s*s<=m->(zD m).length<=190->(zD s).length<=140:=λs m h hm=>by
  have k1:m<10^190:=(zaf m 190 (by omega)).1 hm
  refine(zaf s 140 (by omega)).2 ?_
  by_cases c:s<10^140
  ·exact c
  ·exfalso
   have:=Nat.mul_le_mul (show 10^140<=s by omega) (show 10^140<=s by omega)
   have e:(10:Nat)^190<=10^140*10^140:=by decide+kernel
   omega
 exact z5x sn sd hsd (half _ _ hn.1 h1) (half _ _ hd2.1 h2) W hW
end Go.Proofs.YtpichfafdcfbhaaGreatDoor
