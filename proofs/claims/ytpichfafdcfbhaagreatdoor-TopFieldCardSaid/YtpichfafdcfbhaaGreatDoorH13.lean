/- kingpostref02.split. -/
import Derived.Test.YtpichfafdcfbhaaGreatDoorH12
import Derived.Laws.IdiomStrings
set_option maxRecDepth 100000
set_option maxHeartbeats 8000000
open Go renaming World → zA, Calls → zC
open Go.Lib renaming decDigits → zD, itoa → zE
open Go.Proofs.Tryz renaming prog → zF
open Go.IntWalk renaming i64_in → zI
open Go.RowKit renaming intOf → zL
open Go.RowKit.Below renaming refl → zM
open Nat renaming le_refl → zN, zero_le → zR, pow_succ → yO, mul_comm → yP
open List renaming getElem?_eq_getElem → yB
namespace Go.Proofs.YtpichfafdcfbhaaGreatDoor
open Go.RowKit Go.Shelf Lib Str Limb
attribute [local go_sem] Oper.semAt_some
theorem zmf (l:List UInt8) (k:Nat):((⟨l.toArray⟩:ByteArray).extract 0 k)=⟨(l.take k).toArray⟩:=by
 apply ByteArray.ext
 rw[ByteArray.data_extract]
 simp
theorem zev (l:List UInt8) (k:Nat):((⟨l.toArray⟩:ByteArray).extract k (⟨l.toArray⟩:ByteArray).size)=⟨(l.drop k).toArray⟩:=by
 have:(⟨l.toArray⟩:ByteArray).size=l.length:=by show l.toArray.size=_;simp
 rw[this]
 apply ByteArray.ext
 rw[ByteArray.data_extract]
 simp[List.take_of_length_le]
theorem zmg (b:List UInt8) (k:Nat) (hk:k<b.length) (h1:∀j (hj:j<b.length),j<k->b[j]'hj≠47) (h2:b[k]'hk=47):
 b.takeWhile (· !=47)=b.take k/\(b.dropWhile (· !=47)).tail=b.drop (k+1)/\(47:UInt8)∈b:=by
 have e:b=b.take k++47::b.drop (k+1):=by
  rw[<-h2,List.getElem_cons_drop,List.take_append_drop]
 have hn:(47:UInt8)∉b.take k:=by
  intro h
  obtain⟨j,hj,e⟩:=List.getElem_of_mem h
  rw[List.getElem_take] at e
  simp at hj
  exact h1 j (by omega) (by omega) e
 obtain⟨t1,t2⟩:=zty (b:=b.drop (k+1)) hn
 refine⟨?_,?_,by rw[e];simp⟩
 ·conv=>lhs;rw[e]
  exact t1
 ·conv=>lhs;rw[e]
  rw[t2];rfl
theorem zrt (b:List UInt8) (h1:∀j (hj:j<b.length),b[j]'hj≠47):b.takeWhile (· !=47)=b/\(b.dropWhile (· !=47)).tail=[]/\(47:UInt8)∉b:=by
 have hn:(47:UInt8)∉b:=λh=>by
  obtain⟨j,hj,e⟩:=List.getElem_of_mem h
  exact h1 j hj e
 refine⟨zjy hn,?_,hn⟩
 have:b.dropWhile (· !=47)=[]:=by
  have h2:=List.takeWhile_append_dropWhile (p:=(· !=(47:UInt8))) (l:=b)
  rw[zjy hn] at h2
  exact List.append_right_eq_self.1 h2
 rw[this];rfl
def zeg (m:Bool) (b:List UInt8):Value:=.tuple #[.bool m,St (b.takeWhile (· !=47)),St ((b.dropWhile (· !=47)).tail),.bool (decide ((47:UInt8)∈b))]
theorem zru (b:List UInt8) (hm:b.head? ≠some 45) (hl:b.length<=1000000) (w:zA):
 qJ 63 #[St b] w (zeg false b):=by
 obtain⟨t,ht⟩:∃t:ByteArray,t=⟨b.toArray⟩:=⟨_,rfl⟩
 obtain⟨b1,b2⟩:=zdd b t ht
 have kf:∀k (hk:k<t.size),(t[k]'hk).toNat=47->(∀j (hb:j<t.size),j<k->(t[j]'hb).toNat≠47)->zeg false b=.tuple #[.bool false,.string (t.extract 0 k),.string (t.extract (k+1) t.size),.bool true]:=λk hk h1 h2=>by
  have hk':k<b.length:=by omega
  obtain⟨e1,e2,e3⟩:=zmg b k hk' (λj hj hjk he=>h2 j (by omega) hjk (by rw[b2 j hj (by omega),he];rfl)) (UInt8.toNat_inj.1 (by rw[<-b2 k hk' hk,h1];rfl))
  unfold zeg
  rw[e1,e2,decide_eq_true e3,ht,zmf,zev]
 have kn:(∀j (hb:j<t.size),(t[j]'hb).toNat≠47)->zeg false b=.tuple #[.bool false,.string t,.string ⟨#[]⟩,.bool false]:=λh2=>by
  obtain⟨e1,e2,e3⟩:=zrt b (λj hj he=>h2 j (by omega) (by rw[b2 j hj (by omega),he];rfl))
  unfold zeg
  rw[e1,e2,decide_eq_false e3,ht]
 have KF:=hid kf;have KN:=hid kn
 clear kf kn
 have h0:t.size=0\/0<t.size/\∀hb:0<t.size,(((t[0]'hb).toNat:Int)==45)=false:=by
  by_cases h:t.size=0
  ·exact .inl h
  ·refine .inr ⟨by omega,λhb=>?_⟩
   rw[beq_eq_false_iff_ne]
   intro h'
   have hb0:0<b.length:=by omega
   refine hm ?_
   rw[List.head?_eq_getElem?,yB hb0]
   congr 1
   rw[b2 0 hb0 hb] at h'
   exact UInt8.toNat_inj.1 (by have:(45:UInt8).toNat=45:=rfl;omega)
 have hsz:t.size<=1000000:=by omega
 show zC _ _ #[.string ⟨b.toArray⟩] _ _
 rw[<-ht]
 clear b1 b2 ht hl hm
 generalize zeg false b=v at*
 go_enter Tryz.func63,Tryz.ntmps63
 rcases h0 with h0|⟨h0,h1⟩
 ·have h0':¬(0:Int)<t.size:=by omega
  have h9:=KN.out λj hb=>by omega
  have HN:=hid h9;clear h9
  go_wp2
  refine wp_loop_rounds 1 ?_
  rw[rounds_succ]
  go_wp2
  refine bodyPost_ret (v:=.tuple #[.bool false,.string t,.string ⟨#[]⟩,.bool false]) (by simp[results,Tryz.results63,go_sem]) rfl ⟨by rw[HN.out],zM _ _⟩
 ·have h1':=h1 h0
  have h0':(0:Int)<t.size:=by omega
  clear h1
  go_wp2
  go_loop [8] (λi=>∃k:Nat,k<=t.size/\i=.int .i64 k/\Hid (∀j (hb:j<t.size),j<k->(t[j]'hb).toNat≠47)) (λi=>t.size-(zL i).toNat)
  case atStart=>exact⟨0,zR _,rfl,λj _ h=>by omega⟩
  case round=>
   clear h1'
   obtain⟨k,hk,rfl,hP⟩:=hrel
   by_cases hlt:k<t.size
   ·by_cases d1:(t[k]'hlt).toNat=47
    ·have e1:(((t[k]'hlt).toNat:Int)==47)=true:=by rw[d1];rfl
     have h9:=KF.out k hlt d1 hP.out
     have HN:=hid h9;clear d1 h9
     have hki:(k:Int)<=t.size:=by omega
     have hki1:(k:Int)+1<=t.size:=by omega
     have hk0:(0:Int)<=(k:Int)+1:=by omega
     have hwk:IntKind.i64.wrap ((k:Int)+1)=(k:Int)+1:=zI _ ⟨by omega,by omega⟩
     go_wp2
     (refine wp_region_quiet_lit (by kernel_rfl) (by kernel_rfl) (WQ.out ?_);(repeat(first|(apply WQ.read (by rfl);(focus(rintro W ⟨n,rfl⟩;go_simp;try with_reducible rfl));try simp only[zzQ])|(apply WQ.skip (by rfl);try simp only[zzQ])));refine WQ.nil ?_;rintro _ ⟨nq,rfl⟩)
     go_wp2
     refine bodyPost_ret (v:=.tuple #[.bool false,.string (t.extract 0 k),.string (t.extract (k+1) t.size),.bool true]) (by simp[results,Tryz.results63,go_sem]) rfl ⟨by rw[HN.out],zao (zM _ _) _⟩
    ·have e1:(((t[k]'hlt).toNat:Int)==47)=false:=by rw[beq_eq_false_iff_ne];omega
     have hnext:∀j (hb:j<t.size),j<k+1->(t[j]'hb).toNat≠47:=λj hb h=>by
      by_cases e:j=k
      ·subst e;exact d1
      ·exact hP.out j hb (by omega)
     have HN:=hid hnext;clear hnext d1
     go_wp2
     go_round
     case rel=>exact⟨k+1,by omega,by go_num,HN⟩
     case measure=>simp[zL];omega
   ·have h9:=KN.out λj hb=>hP.out j hb (by omega)
    have HN:=hid h9;clear h9
    go_wp2
    refine bodyPost_ret (v:=.tuple #[.bool false,.string t,.string ⟨#[]⟩,.bool false]) (by simp[results,Tryz.results63,go_sem]) rfl ⟨by rw[HN.out],zM _ _⟩
theorem zrv (b:List UInt8) (hl:b.length<=1000000) (w:zA):
 qJ 63 #[St (45::b)] w (zeg true b):=by
 obtain⟨t,ht⟩:∃t:ByteArray,t=⟨b.toArray⟩:=⟨_,rfl⟩
 obtain⟨b1,b2⟩:=zdd b t ht
 have kf:∀k (hk:k<t.size),(t[k]'hk).toNat=47->(∀j (hb:j<t.size),j<k->(t[j]'hb).toNat≠47)->zeg true b=.tuple #[.bool true,.string (t.extract 0 k),.string (t.extract (k+1) t.size),.bool true]:=λk hk h1 h2=>by
  have hk':k<b.length:=by omega
  obtain⟨e1,e2,e3⟩:=zmg b k hk' (λj hj hjk he=>h2 j (by omega) hjk (by rw[b2 j hj (by omega),he];rfl)) (UInt8.toNat_inj.1 (by rw[<-b2 k hk' hk,h1];rfl))
  unfold zeg
  rw[e1,e2,decide_eq_true e3,ht,zmf,zev]
 have kn:(∀j (hb:j<t.size),(t[j]'hb).toNat≠47)->zeg true b=.tuple #[.bool true,.string t,.string ⟨#[]⟩,.bool false]:=λh2=>by
  obtain⟨e1,e2,e3⟩:=zrt b (λj hj he=>h2 j (by omega) (by rw[b2 j hj (by omega),he];rfl))
  unfold zeg
  rw[e1,e2,decide_eq_false e3,ht]
 have KF:=hid kf;have KN:=hid kn
 clear kf kn
 obtain⟨s,hs⟩:∃s:ByteArray,s=⟨((45:UInt8)::b).toArray⟩:=⟨_,rfl⟩
 obtain⟨s1,s2,s3,s4,s5⟩:=zgu b s hs
 have h45:=s4 s2
 have hsl:(1:Int)<=s.size:=by omega
 have hs0:(0:Int)<s.size:=by omega
 rw[<-ht] at s5
 have hsz:t.size<=1000000:=by omega
 show zC _ _ #[.string ⟨((45:UInt8)::b).toArray⟩] _ _
 rw[<-hs]
 clear b1 b2 ht hl s1 s3 s4 hs
 generalize zeg true b=v at*
 go_enter Tryz.func63,Tryz.ntmps63
 go_wp2
 go_loop [8] (λi=>∃k:Nat,k<=t.size/\i=.int .i64 k/\Hid (∀j (hb:j<t.size),j<k->(t[j]'hb).toNat≠47)) (λi=>t.size-(zL i).toNat)
 case atStart=>exact⟨0,zR _,rfl,λj _ h=>by omega⟩
 case round=>
  clear h45 hsl hs0 s5
  obtain⟨k,hk,rfl,hP⟩:=hrel
  by_cases hlt:k<t.size
  ·by_cases d1:(t[k]'hlt).toNat=47
   ·have e1:(((t[k]'hlt).toNat:Int)==47)=true:=by rw[d1];rfl
    have h9:=KF.out k hlt d1 hP.out
    have HN:=hid h9;clear d1 h9
    have hki:(k:Int)<=t.size:=by omega
    have hki1:(k:Int)+1<=t.size:=by omega
    have hk0:(0:Int)<=(k:Int)+1:=by omega
    have hwk:IntKind.i64.wrap ((k:Int)+1)=(k:Int)+1:=zI _ ⟨by omega,by omega⟩
    go_wp2
    (refine wp_region_quiet_lit (by kernel_rfl) (by kernel_rfl) (WQ.out ?_);(repeat(first|(apply WQ.read (by rfl);(focus(rintro W ⟨n,rfl⟩;go_simp;try with_reducible rfl));try simp only[zzQ])|(apply WQ.skip (by rfl);try simp only[zzQ])));refine WQ.nil ?_;rintro _ ⟨nq,rfl⟩)
    go_wp2
    refine bodyPost_ret (v:=.tuple #[.bool true,.string (t.extract 0 k),.string (t.extract (k+1) t.size),.bool true]) (by simp[results,Tryz.results63,go_sem]) rfl ⟨by rw[HN.out],zao (zM _ _) _⟩
   ·have e1:(((t[k]'hlt).toNat:Int)==47)=false:=by rw[beq_eq_false_iff_ne];omega
    have hnext:∀j (hb:j<t.size),j<k+1->(t[j]'hb).toNat≠47:=λj hb h=>by
     by_cases e:j=k
     ·subst e;exact d1
     ·exact hP.out j hb (by omega)
    have HN:=hid hnext;clear hnext d1
    go_wp2
    go_round
    case rel=>exact⟨k+1,by omega,by go_num,HN⟩
    case measure=>simp[zL];omega
  ·have h9:=KN.out λj hb=>hP.out j hb (by omega)
   have HN:=hid h9;clear h9
   go_wp2
   refine bodyPost_ret (v:=.tuple #[.bool true,.string t,.string ⟨#[]⟩,.bool false]) (by simp[results,Tryz.results63,go_sem]) rfl ⟨by rw[HN.out],zM _ _⟩
theorem zn0 (l:List UInt8) (hl:l.length<=1000000) (w:zA):
 qJ 63 #[St l] w (.tuple #[.bool (decide (l.head? =some 45)),St (upS l),St (dnS l),.bool (decide ((47:UInt8)∈bare l))]):=by
 rcases zhb l with⟨h1,h2⟩|⟨h1,h2⟩
 ·rw[decide_eq_true h1]
  have:=zrv (bare l) (by have:=congrArg List.length h2;simp at this;omega) w
  rw[<-h2] at this
  exact this
 ·rw[decide_eq_false h1]
  have:=zru (bare l) (by rw[<-h2];exact h1) (by rw[<-h2];exact hl) w
  rw[<-h2] at this
  unfold upS dnS
  rw[<-h2]
  exact this
theorem ziz (n:Nat) (hl:(zD n).length<=300) (w:zA):
 zC zF 155 #[St (zD n)] w λe w'=>e=.returned (.int .i64 0)/\w'=w:=by
 obtain⟨s,hs⟩:∃s:ByteArray,s=⟨(zD n++[]).toArray⟩:=⟨_,rfl⟩
 obtain⟨b1,b2, -⟩:=zii (zd7 n) s hs
 have hzero:(zD n).length<=1\/∀hb:0<s.size,(s[0]'hb).toNat≠48:=zjz n [] s hs
 have hb2:∀k (hb:k<s.size),48<=(s[k]'hb).toNat/\(s[k]'hb).toNat<=57:=λk hb=>⟨(b2 k (by simp at b1;omega) hb).1,(b2 k (by simp at b1;omega) hb).2.1⟩
 have hpos:1<=(zD n).length:=by have:=zbn (n:Int);unfold digs at this;simpa using this
 rw[List.append_nil] at hs
 have hlen:(zD n).length=s.size:=by rw[b1];simp
 show zC _ _ #[.string ⟨(zD n).toArray⟩] _ _
 rw[hlen] at hl hzero hpos
 rw[<-hs]
 have B2:=hid hb2
 clear b1 b2 hb2 hs hlen
 have h0:0<s.size:=by omega
 have h0':(0:Int)<s.size:=by omega
 have hz:((0:Int)==s.size)=false:=by rw[beq_eq_false_iff_ne];omega
 have h45:(((s[0]'h0).toNat:Int)==45)=false:=by rw[beq_eq_false_iff_ne];have:=(B2.out 0 h0).1;omega
 have hf:(((s[0]'h0).toNat:Int)==48)=true/\¬(1:Int)<s.size\/(((s[0]'h0).toNat:Int)==48)=false:=by
  by_cases h:(s[0]'h0).toNat=48
  ·left
   refine⟨by rw[h];rfl,?_⟩
   rcases hzero with h1|h1
   ·omega
   ·exact absurd h (h1 h0)
  ·right;rw[beq_eq_false_iff_ne];omega
 have hwl:IntKind.i64.wrap ((s.size:Int)-0)=(s.size:Int):=by rw[Int.sub_zero];exact zI _ ⟨by omega,by omega⟩
 have hwl2:IntKind.i64.wrap (s.size:Int)=(s.size:Int):=zI _ ⟨by omega,by omega⟩
 have h300:¬(300:Int)<s.size:=by omega
 clear hzero
 go_enter Tryz.func155,Tryz.ntmps155
 rcases hf with⟨f1,f2⟩|f1
 all_goals (
 go_wp2
 go_loop [4] (λi=>∃k:Nat,k<=s.size/\i=.int .i64 k) (λi=>s.size-(zL i).toNat)
 case atStart=>exact⟨0,zR _,rfl⟩
 case round=>
  obtain⟨k,hk,rfl⟩:=hrel
  by_cases hlt:k<s.size
  ·obtain⟨c1,c2⟩:=B2.out k hlt
   have d1:(48:Int)<=(s[k].toNat:Int):=by omega
   have d2:(s[k].toNat:Int)<=57:=by omega
   go_wp2
   go_round
   case rel=>exact⟨k+1,by omega,by go_num⟩
   case measure=>simp[zL];omega
  ·go_wp2
   go_ret
   first|exact⟨rfl,rfl⟩|exact rfl|trivial)
theorem zg3 {l:List UInt8} (h:∀c∈l,48<=c.toNat/\c.toNat<=57) {k:Nat} (hk:k<=17):val (l.take k)<100000000000000000:=by
 have h1:=zjc (l.take k) (λc hc=>h c (List.mem_of_mem_take hc))
 have h2:(10:Nat)^(l.take k).length<=10^17:=Nat.pow_le_pow_right (by omega) (by simp;omega)
 exact Nat.lt_of_lt_of_le h1 h2
theorem zi0 (n:Nat) (hl:(zD n).length<=17) (w:zA):
 zC zF 156 #[St (zD n)] w λe w'=>e=.returned (.tuple #[I n,.bool true])/\w'=w:=by
 obtain⟨l,hll⟩:∃l,l=zD n:=⟨_,rfl⟩
 have hd:=zan n
 have hvn:=zb2 n
 have hpos:1<=(zD n).length:=by have:=zbn (n:Int);unfold digs at this;simpa using this
 rw[<-hll] at hd hvn hl hpos⊢
 obtain⟨s,hs⟩:∃s:ByteArray,s=⟨l.toArray⟩:=⟨_,rfl⟩
 obtain⟨b1,b2⟩:=zdd l s hs
 have hvt:=λk hk=>zg3 (l:=l) hd (k:=k) hk
 have hst:∀k (hb:k<s.size),48<=(s[k]'hb).toNat/\(s[k]'hb).toNat<=57/\val (l.take (k+1))=10*val (l.take k)+((s[k]'hb).toNat-48):=λk hb=>by
  have hk:k<l.length:=by omega
  rw[b2 k hk hb,List.take_succ_eq_append_getElem hk,zde]
  exact⟨(hd _ (List.getElem_mem hk)).1,(hd _ (List.getElem_mem hk)).2,rfl⟩
 have hfull:val (l.take s.size)=n:=by rw[b1,List.take_length];exact hvn
 show zC _ _ #[.string ⟨l.toArray⟩] _ _
 rw[<-hs]
 have hs17:s.size<=17:=by omega
 have hs0:0<s.size:=by omega
 generalize hvf:(λk=>val (l.take k))=vf at*
 have hvt':∀k,k<=17->vf k<100000000000000000:=by rw[<-hvf];exact hvt
 have hst':∀k (hb:k<s.size),48<=(s[k]'hb).toNat/\(s[k]'hb).toNat<=57/\vf (k+1)=10*vf k+((s[k]'hb).toNat-48):=by rw[<-hvf];exact hst
 have hfull':vf s.size=n:=by rw[<-hvf];exact hfull
 have hv0:vf 0=0:=by rw[<-hvf];rfl
 have VT:=hid hvt';have ST:=hid hst';have HF:=hid hfull';have V0:=hid hv0
 have h45:(((s[0]'hs0).toNat:Int)==45)=false:=by rw[beq_eq_false_iff_ne];have:=(hst' 0 hs0).1;omega
 clear hvt' hst' hfull' hv0 hvt hst hfull hvf b1 b2 hs hd hl hll hvn hpos
 go_enter Tryz.func156,Tryz.ntmps156
 go_wp2
 go_loop [4,5] (λa i=>∃k:Nat,k<=s.size/\i=.int .i64 k/\a=.int .i64 (vf k:Nat)) (λ_ i=>s.size-(zL i).toNat)
 case atStart=>exact⟨0,zR _,rfl,by rw[V0.out];rfl⟩
 case round=>
  obtain⟨k,hk,rfl,rfl⟩:=hrel
  by_cases hlt:k<s.size
  ·obtain⟨c1,c2,c3⟩:=ST.out k hlt
   have hv:=VT.out k (by omega)
   generalize vf k=v at*
   have C3:=hid c3;clear c3
   have d1:(48:Int)<=(s[k].toNat:Int):=by omega
   have d2:(s[k].toNat:Int)<=57:=by omega
   have d3:((s[k].toNat:Int) !=45)=true:=by simp;omega
   go_wp2
   go_round
   case rel=>exact⟨k+1,by omega,by go_num,by rw[C3.out];show Value.int .i64 _=Value.int .i64 _;congr 1;omega⟩
   case measure=>simp[zL];omega
  ·have hk':k=s.size:=by omega
   have HK:=hid hk';clear hk'
   go_wp2
   go_ret2
   exact⟨by rw[HK.out,HF.out];rfl,rfl⟩
theorem zxf (l:List UInt8):okS l↔zds (upS l)/\¬(l.head? =some 45/\upS l=[48])/\((47:UInt8)∉bare l\/(zds (dnS l)/\dnS l≠[48]/\dnS l≠[49]/\Nat.gcd (val (upS l)) (val (dnS l))=1)):=by
 unfold okS hasS
 constructor
 ·rintro⟨h1,h2,h3⟩
  refine⟨h1,h2,?_⟩
  by_cases h:(47:UInt8)∈bare l
  ·exact .inr (h3 h)
  ·exact .inl h
 ·rintro⟨h1,h2,h3⟩
  refine⟨h1,h2,λh=>?_⟩
  rcases h3 with h3|h3
  ·exact absurd h h3
  ·exact h3
theorem zgl (l:List UInt8) (s:ByteArray) (hs:s=⟨l.toArray⟩) (k:List UInt8):(s.toList==k)=decide (l=k):=by
 rw[hs,ByteArray.toList_eq]
 by_cases h:l=k
 ·subst h;simp
 ·rw[decide_eq_false h];simpa using h
theorem ztd (x u v:ByteArray) (m sl b1 b2 z1 z2 z3:Bool) (g:Nat) (Q:Prop) (hu:u.size<=300) (hv:v.size<=300)
 (HQ:Hid (Q↔b1=true/\¬(m=true/\z3=true)/\(sl=false\/(b2=true/\z1=false/\z2=false/\g=1))))
 (e1:(v.toList==[48])=z1) (e2:(v.toList==[49])=z2) (e3:(u.toList==[48])=z3)
 (SP:Hid (∀W:zA,qJ 63 #[.string x] W (.tuple #[.bool m,.string u,.string v,.bool sl])))
 (D1:Hid (∀W:zA,zC zF 64 #[.string u] W λe w'=>e=.returned (.bool b1)/\w'=W))
 (D2:Hid (∀W:zA,zC zF 64 #[.string v] W λe w'=>e=.returned (.bool b2)/\w'=W))
 (SG:Hid (b1=true->b2=true->u.size<=9->v.size<=9->∃n d:Nat,(∀W:zA,zC zF 66 #[.string u] W λe w'=>e=.returned (I n)/\w'=W)/\(∀W:zA,zC zF 66 #[.string v] W λe w'=>e=.returned (I d)/\w'=W)/\
   ∀W:zA,qJ 65 #[I n,I d] W (I g)))
 (BG:Hid (b1=true->b2=true->∃t:ByteArray,(t.toList==[49])=decide (g=1)/\qK 67 #[.string u,.string v] (.tuple #[.string t,.int .i64 0])))
 (w:zA) (HW:Hid (Wd w)):
 zC zF 23 #[.string x] w λe w'=>∃r:Int,e=.returned (.int .i64 r)/\(r=0↔Q)/\Below w.heap.size w w':=by
 have u300:¬(300:Int)<u.size:=by omega
 have v300:¬(300:Int)<v.size:=by omega
 go_enter Tryz.func23,Tryz.ntmps23
 go_wp2_with fail
 refine(SP.out w).mono ?_
 rintro e w1 ⟨rfl,hB⟩
 go_wp2_with fail
 refine(D1.out w1).mono ?_
 rintro e w2 ⟨rfl,hw⟩
 have hw2:=hw.symm;subst hw2;clear hw
 cases b1
 ·have HN:=hid (by rw[HQ.out];simp:¬Q)
  go_wp2_with fail
  all_goals first|exact(zzU ‹_›).elim|skip
  go_ret
  exact⟨11,rfl,⟨λh=>by simp at h,λh=>absurd h HN.out⟩,hB⟩
 ·cases sl
  ·cases m
   ·have HN:=hid (by rw[HQ.out];simp:Q)
    go_wp2_with fail
    all_goals first|exact(zzU ‹_›).elim|skip
    go_ret
    exact⟨0,rfl,⟨λ_=>HN.out,λ_=>rfl⟩,hB⟩
   ·cases z3
    ·have HN:=hid (by rw[HQ.out];simp:Q)
     go_wp2_with fail
     all_goals first|exact(zzU ‹_›).elim|skip
     go_ret
     exact⟨0,rfl,⟨λ_=>HN.out,λ_=>rfl⟩,hB⟩
    ·have HN:=hid (by rw[HQ.out];simp:¬Q)
     go_wp2_with fail
     all_goals first|exact(zzU ‹_›).elim|skip
     go_ret
     exact⟨11,rfl,⟨λh=>by simp at h,λh=>absurd h HN.out⟩,hB⟩
  ·go_wp2_with fail
   all_goals first|exact(zzU ‹_›).elim|skip
   refine(D2.out _).mono ?_
   rintro e w2 ⟨rfl,hw⟩
   have hw2:=hw.symm;subst hw2;clear hw
   cases b2
   ·have HN:=hid (by rw[HQ.out];simp:¬Q)
    go_wp2_with fail
    all_goals first|exact(zzU ‹_›).elim|skip
    go_ret
    exact⟨11,rfl,⟨λh=>by simp at h,λh=>absurd h HN.out⟩,hB⟩
   ·cases z1
    ·cases z2
     ·cases m
      ·by_cases h9:u.size<=9
       ·by_cases k9:v.size<=9
        ·have hu9:(u.size:Int)<=9:=by omega
         have hv9:(v.size:Int)<=9:=by omega
         obtain⟨n,d,s1,s2,s3⟩:=SG.out (by simp) (by simp) (by omega) (by omega)
         have S1:=hid s1;have S2:=hid s2;have S3:=hid s3;clear s1 s2 s3
         go_wp2_with fail
         all_goals first|exact(zzU ‹_›).elim|skip
         refine(S1.out _).mono ?_
         rintro e w2 ⟨rfl,hw⟩
         have hw2:=hw.symm;subst hw2;clear hw
         go_wp2_with fail
         refine(S2.out _).mono ?_
         rintro e w2 ⟨rfl,hw⟩
         have hw2:=hw.symm;subst hw2;clear hw
         go_wp2_with fail
         refine(S3.out _).mono ?_
         rintro e w2 ⟨rfl,hb2⟩
         have hB:=hB.trans (hb2.mono hB.size)
         clear hb2
         by_cases hg:g=1
         ·have HN:=hid (by rw[HQ.out];simp[hg]:Q)
          have hgb:((g:Int) !=1)=false:=by subst hg;rfl
          clear hg
          go_wp2_with fail
          go_ret
          exact⟨0,rfl,⟨λ_=>HN.out,λ_=>rfl⟩,hB⟩
         ·have HN:=hid (by rw[HQ.out];simp[hg]:¬Q)
          have hgb:((g:Int) !=1)=true:=by simp;omega
          clear hg
          go_wp2_with fail
          go_ret
          exact⟨11,rfl,⟨λh=>by simp at h,λh=>absurd h HN.out⟩,hB⟩
        ·have hu9:(u.size:Int)<=9:=by omega
         have hv9:¬(v.size:Int)<=9:=by omega
         obtain⟨t,t1,t2⟩:=BG.out (by simp) (by simp)
         have T2:=hid (t2 w1 (HW.out.below hB));clear t2
         go_wp2_with fail
         all_goals first|exact(zzU ‹_›).elim|skip
         refine T2.out.mono ?_
         rintro e w2 ⟨rfl,hb2⟩
         have hB:=hB.trans (hb2.mono hB.size)
         clear hb2 T2
         by_cases hg:g=1
         ·have HN:=hid (by rw[HQ.out];simp[hg]:Q)
          rw[decide_eq_true hg] at t1
          clear hg
          go_wp2_with fail
          go_ret
          exact⟨0,rfl,⟨λ_=>HN.out,λ_=>rfl⟩,hB⟩
         ·have HN:=hid (by rw[HQ.out];simp[hg]:¬Q)
          rw[decide_eq_false hg] at t1
          clear hg
          go_wp2_with fail
          go_ret
          exact⟨11,rfl,⟨λh=>by simp at h,λh=>absurd h HN.out⟩,hB⟩
       ·have hu9:¬(u.size:Int)<=9:=by omega
        obtain⟨t,t1,t2⟩:=BG.out (by simp) (by simp)
        have T2:=hid (t2 w1 (HW.out.below hB));clear t2
        go_wp2_with fail
        all_goals first|exact(zzU ‹_›).elim|skip
        refine T2.out.mono ?_
        rintro e w2 ⟨rfl,hb2⟩
        have hB:=hB.trans (hb2.mono hB.size)
        clear hb2 T2
        by_cases hg:g=1
        ·have HN:=hid (by rw[HQ.out];simp[hg]:Q)
         rw[decide_eq_true hg] at t1
         clear hg
         go_wp2_with fail
         go_ret
         exact⟨0,rfl,⟨λ_=>HN.out,λ_=>rfl⟩,hB⟩
        ·have HN:=hid (by rw[HQ.out];simp[hg]:¬Q)
         rw[decide_eq_false hg] at t1
         clear hg
         go_wp2_with fail
         go_ret
         exact⟨11,rfl,⟨λh=>by simp at h,λh=>absurd h HN.out⟩,hB⟩
      ·cases z3
       ·by_cases h9:u.size<=9
        ·by_cases k9:v.size<=9
         ·have hu9:(u.size:Int)<=9:=by omega
          have hv9:(v.size:Int)<=9:=by omega
          obtain⟨n,d,s1,s2,s3⟩:=SG.out (by simp) (by simp) (by omega) (by omega)
          have S1:=hid s1;have S2:=hid s2;have S3:=hid s3;clear s1 s2 s3
          go_wp2_with fail
          all_goals first|exact(zzU ‹_›).elim|skip
          refine(S1.out _).mono ?_
          rintro e w2 ⟨rfl,hw⟩
          have hw2:=hw.symm;subst hw2;clear hw
          go_wp2_with fail
          refine(S2.out _).mono ?_
          rintro e w2 ⟨rfl,hw⟩
          have hw2:=hw.symm;subst hw2;clear hw
          go_wp2_with fail
          refine(S3.out _).mono ?_
          rintro e w2 ⟨rfl,hb2⟩
          have hB:=hB.trans (hb2.mono hB.size)
          clear hb2
          by_cases hg:g=1
          ·have HN:=hid (by rw[HQ.out];simp[hg]:Q)
           have hgb:((g:Int) !=1)=false:=by subst hg;rfl
           clear hg
           go_wp2_with fail
           go_ret
           exact⟨0,rfl,⟨λ_=>HN.out,λ_=>rfl⟩,hB⟩
          ·have HN:=hid (by rw[HQ.out];simp[hg]:¬Q)
           have hgb:((g:Int) !=1)=true:=by simp;omega
           clear hg
           go_wp2_with fail
           go_ret
           exact⟨11,rfl,⟨λh=>by simp at h,λh=>absurd h HN.out⟩,hB⟩
         ·have hu9:(u.size:Int)<=9:=by omega
          have hv9:¬(v.size:Int)<=9:=by omega
          obtain⟨t,t1,t2⟩:=BG.out (by simp) (by simp)
          have T2:=hid (t2 w1 (HW.out.below hB));clear t2
          go_wp2_with fail
          all_goals first|exact(zzU ‹_›).elim|skip
          refine T2.out.mono ?_
          rintro e w2 ⟨rfl,hb2⟩
          have hB:=hB.trans (hb2.mono hB.size)
          clear hb2 T2
          by_cases hg:g=1
          ·have HN:=hid (by rw[HQ.out];simp[hg]:Q)
           rw[decide_eq_true hg] at t1
           clear hg
           go_wp2_with fail
           go_ret
           exact⟨0,rfl,⟨λ_=>HN.out,λ_=>rfl⟩,hB⟩
          ·have HN:=hid (by rw[HQ.out];simp[hg]:¬Q)
           rw[decide_eq_false hg] at t1
           clear hg
           go_wp2_with fail
           go_ret
           exact⟨11,rfl,⟨λh=>by simp at h,λh=>absurd h HN.out⟩,hB⟩
        ·have hu9:¬(u.size:Int)<=9:=by omega
         obtain⟨t,t1,t2⟩:=BG.out (by simp) (by simp)
         have T2:=hid (t2 w1 (HW.out.below hB));clear t2
         go_wp2_with fail
         all_goals first|exact(zzU ‹_›).elim|skip
         refine T2.out.mono ?_
         rintro e w2 ⟨rfl,hb2⟩
         have hB:=hB.trans (hb2.mono hB.size)
         clear hb2 T2
         by_cases hg:g=1
         ·have HN:=hid (by rw[HQ.out];simp[hg]:Q)
          rw[decide_eq_true hg] at t1
          clear hg
          go_wp2_with fail
          go_ret
          exact⟨0,rfl,⟨λ_=>HN.out,λ_=>rfl⟩,hB⟩
         ·have HN:=hid (by rw[HQ.out];simp[hg]:¬Q)
          rw[decide_eq_false hg] at t1
          clear hg
          go_wp2_with fail
          go_ret
          exact⟨11,rfl,⟨λh=>by simp at h,λh=>absurd h HN.out⟩,hB⟩
       ·have HN:=hid (by rw[HQ.out];simp:¬Q)
        go_wp2_with fail
        all_goals first|exact(zzU ‹_›).elim|skip
        go_ret
        exact⟨11,rfl,⟨λh=>by simp at h,λh=>absurd h HN.out⟩,hB⟩
     ·have HN:=hid (by rw[HQ.out];simp:¬Q)
      go_wp2_with fail
      all_goals first|exact(zzU ‹_›).elim|skip
      go_ret
      exact⟨11,rfl,⟨λh=>by simp at h,λh=>absurd h HN.out⟩,hB⟩
    ·have HN:=hid (by rw[HQ.out];simp:¬Q)
     go_wp2_with fail
     all_goals first|exact(zzU ‹_›).elim|skip
     go_ret
     exact⟨11,rfl,⟨λh=>by simp at h,λh=>absurd h HN.out⟩,hB⟩
theorem z15 (g:Nat):zD g=[49]↔g=1:=by
 have e:zD 1=[49]:=by rw[zae (by omega)];rfl
 constructor
 ·intro h;exact zfk (h.trans e.symm)
 ·rintro rfl;exact e
theorem zzE {n:Nat} (h:0<n):∀c r,zD n=c::r->c.toNat≠48:=by
 intro c r e hc
 obtain⟨s,hs⟩:∃s:ByteArray,s=⟨(zD n++[]).toArray⟩:=⟨_,rfl⟩
 have hz:=zjz n [] s hs
 have c48:c=48:=by apply UInt8.toNat_inj.1;rw[hc];rfl
 rcases hz with h1|h1
 ·rw[e] at h1
  have hr:r=[]:=by cases r with|nil=>rfl|cons _ _=>simp at h1
  have:=zb2 n
  rw[e,hr,c48] at this
  simp[val] at this
  omega
 ·rw[e] at hs
  subst hs
  have:=h1 (by simp[ByteArray.size])
  exact this (by show c.toNat=48;exact hc)
theorem zte (n:Nat) (h0:0<n) (hl:(zD n).length<=300) (w:zA):
 zC zF 155 #[St (45::zD n)] w λe w'=>e=.returned (.int .i64 0)/\w'=w:=by
 have hd:=zan n
 have hh:=zzE h0
 have hpos:1<=(zD n).length:=by have:=zbn (n:Int);unfold digs at this;simpa using this
 obtain⟨l,hll⟩:∃l,l=zD n:=⟨_,rfl⟩
 rw[<-hll] at hd hl hpos hh⊢
 obtain⟨s,hs⟩:∃s:ByteArray,s=⟨(45::l).toArray⟩:=⟨_,rfl⟩
 obtain⟨b1,b2⟩:=zdd (45::l) s hs
 have hsz:s.size=l.length+1:=by rw[b1];simp
 have h1:0<s.size:=by omega
 have h2:1<s.size:=by omega
 have e0:(((s[0]'h1).toNat:Int)==45)=true:=by rw[b2 0 (by simp) h1];rfl
 have hb2:∀k (hb:k<s.size),1<=k->48<=(s[k]'hb).toNat/\(s[k]'hb).toNat<=57:=λk hb hk=>by
  obtain⟨j,rfl⟩:∃j,k=j+1:=⟨k-1,by omega⟩
  rw[b2 (j+1) (by simp;omega) hb]
  exact hd _ (by simp)
 have f1:(((s[1]'h2).toNat:Int)==48)=false:=by
  rw[beq_eq_false_iff_ne,b2 1 (by simp;omega) h2]
  cases l with
  |nil=>simp at hpos
  |cons c r=>have:=hh c r rfl;show((c.toNat:Int))≠48;omega
 show zC _ _ #[.string ⟨(45::l).toArray⟩] _ _
 rw[<-hs]
 have B2:=hid hb2
 have hw1:IntKind.i64.wrap ((s.size:Int)-1)=(s.size:Int)-1:=zI _ ⟨by omega,by omega⟩
 have h300:¬(300:Int)<(s.size:Int)-1:=by omega
 have h0':(0:Int)<s.size:=by omega
 have hz:((1:Int)==s.size)=false:=by rw[beq_eq_false_iff_ne];omega
 clear hb2 b1 b2 hs hd hh hll hpos hl h0
 go_enter Tryz.func155,Tryz.ntmps155
 go_wp2
 go_loop [4] (λi=>∃k:Nat,1<=k/\k<=s.size/\i=.int .i64 k) (λi=>s.size-(zL i).toNat)
 case atStart=>exact⟨1,zN _,by omega,rfl⟩
 case round=>
  obtain⟨k,hk1,hk,rfl⟩:=hrel
  by_cases hlt:k<s.size
  ·obtain⟨c1,c2⟩:=B2.out k hlt hk1
   have d1:(48:Int)<=(s[k].toNat:Int):=by omega
   have d2:(s[k].toNat:Int)<=57:=by omega
   go_wp2
   go_round
   case rel=>exact⟨k+1,by omega,by omega,by go_num⟩
   case measure=>simp[zL];omega
  ·go_wp2
   go_ret
   first|exact⟨rfl,rfl⟩|exact rfl|trivial
theorem zh6 (z:Int) (hl:digs z<=300) (w:zA):
 zC zF 155 #[St (zE z)] w λe w'=>e=.returned (.int .i64 0)/\w'=w:=by
 rcases zbg z with⟨h,e⟩|⟨h,e⟩<;>rw[e]
 ·exact ziz _ hl w
 ·exact zte _ (by omega) hl w
theorem zcb (x y:Int) (hx:digs x<=300) (hy:digs y<=300) (w:zA):
 zC zF 114 #[St (zE x),St (zE y)] w λe w'=>e=.returned (.int .i64 0)/\w'=w:=by
 have c1:=zh6 x hx w;have c2:=zh6 y hy w
 generalize zE x=u at*
 generalize zE y=v at*
 have C1:=hid c1;have C2:=hid c2
 clear c1 c2 hx hy
 go_enter Tryz.func114,Tryz.ntmps114
 go_wp2_with fail
 refine C1.out.mono ?_
 rintro e w' ⟨rfl,rfl⟩
 go_wp2_with fail
 refine C2.out.mono ?_
 rintro e w'' ⟨rfl,rfl⟩
 go_wp2_with fail
 go_ret
 exact⟨rfl,rfl⟩
theorem ztf (n:Nat) (h0:0<n) (hl:(zD n).length<=16) (w:zA):
 zC zF 156 #[St (45::zD n)] w λe w'=>e=.returned (.tuple #[.int .i64 (-(n:Int)),.bool true])/\w'=w:=by
 obtain⟨l,hll⟩:∃l,l=zD n:=⟨_,rfl⟩
 have hd:=zan n
 have hvn:=zb2 n
 rw[<-hll] at hd hvn hl⊢
 obtain⟨s,hs⟩:∃s:ByteArray,s=⟨(45::l).toArray⟩:=⟨_,rfl⟩
 obtain⟨b1,b2⟩:=zdd (45::l) s hs
 have hsz:s.size=l.length+1:=by rw[b1];simp
 have hvt:=λk hk=>zg3 (l:=l) hd (k:=k) hk
 have hs0:0<s.size:=by omega
 have e0:(((s[0]'hs0).toNat:Int)==45)=true:=by rw[b2 0 (by simp) hs0];rfl
 have e0':(((s[0]'hs0).toNat:Int) !=45)=false:=by rw[b2 0 (by simp) hs0];rfl
 have hst:∀k (hb:k+1<s.size),48<=(s[k+1]'hb).toNat/\(s[k+1]'hb).toNat<=57/\val (l.take (k+1))=10*val (l.take k)+((s[k+1]'hb).toNat-48):=λk hb=>by
  have hk:k<l.length:=by omega
  rw[b2 (k+1) (by simp;omega) hb,List.take_succ_eq_append_getElem hk,zde]
  exact⟨(hd _ (by simp)).1,(hd _ (by simp)).2,rfl⟩
 have hfull:val (l.take (s.size-1))=n:=by rw[hsz,Nat.add_sub_cancel,List.take_length];exact hvn
 show zC _ _ #[.string ⟨(45::l).toArray⟩] _ _
 rw[<-hs]
 have hs17:s.size<=17:=by omega
 generalize hvf:(λk=>val (l.take k))=vf at*
 have hvt':∀k,k<=17->vf k<100000000000000000:=by rw[<-hvf];exact hvt
 have hst':∀k (hb:k+1<s.size),48<=(s[k+1]'hb).toNat/\(s[k+1]'hb).toNat<=57/\vf (k+1)=10*vf k+((s[k+1]'hb).toNat-48):=by rw[<-hvf];exact hst
 have hfull':vf (s.size-1)=n:=by rw[<-hvf];exact hfull
 have hv0:vf 0=0:=by rw[<-hvf];rfl
 have VT:=hid hvt';have ST:=hid hst';have HF:=hid hfull';have V0:=hid hv0
 clear hvt' hst' hfull' hv0 hvt hst hfull hvf b1 b2 hs hd hl hll hvn hsz
 go_enter Tryz.func156,Tryz.ntmps156
 go_wp2
 go_loop [4,5] (λa i=>∃k:Nat,k<=s.size/\i=.int .i64 k/\a=.int .i64 (vf (k-1):Nat)) (λ_ i=>s.size-(zL i).toNat)
 case atStart=>exact⟨0,zR _,rfl,by rw[V0.out];rfl⟩
 case round=>
  obtain⟨k,hk,rfl,rfl⟩:=hrel
  by_cases hlt:k<s.size
  ·rcases Nat.eq_zero_or_pos k with rfl|hp
   ·go_wp2
    go_round
    case rel=>exact⟨1,by omega,by go_num,rfl⟩
    case measure=>simp[zL];omega
   ·obtain⟨j,rfl⟩:∃j,k=j+1:=⟨k-1,by omega⟩
    obtain⟨c1,c2,c3⟩:=ST.out j hlt
    have hv:=VT.out j (by omega)
    rw[Nat.add_sub_cancel]
    generalize vf j=v at*
    have C3:=hid c3;clear c3
    have d1:(48:Int)<=(s[j+1].toNat:Int):=by omega
    have d2:(s[j+1].toNat:Int)<=57:=by omega
    have d3:((s[j+1].toNat:Int) !=45)=true:=by simp;omega
    go_wp2
    go_round
    case rel=>exact⟨j+2,by omega,by go_num,by rw[show j+2-1=j+1 from rfl,C3.out];show Value.int .i64 _=Value.int .i64 _;congr 1;omega⟩
    case measure=>simp[zL];omega
  ·have hk':k=s.size:=by omega
   have HK:=hid hk';clear hk'
   have hvk:vf (k-1)=n:=by rw[HK.out];exact HF.out
   have hv:n<100000000000000000:=by rw[<-hvk];exact VT.out (k-1) (by omega)
   rw[hvk]
   have en:IntKind.i64.wrap (-(n:Int))= -(n:Int):=zI _ (by omega)
   clear hvk hv
   go_wp2
   go_ret2
   exact⟨rfl,rfl⟩
theorem zh7 (z:Int) (hl:(zE z).length<=17) (w:zA):
 zC zF 156 #[St (zE z)] w λe w'=>e=.returned (.tuple #[.int .i64 z,.bool true])/\w'=w:=by
 rcases zbg z with⟨h,e⟩|⟨h,e⟩<;>rw[e] at hl⊢
 ·have:=zi0 z.natAbs hl w
  rwa [show I z.natAbs=.int .i64 z by show Value.int .i64 _=Value.int .i64 _;congr 1;omega] at this
 ·have:=ztf z.natAbs (by omega) (by simp at hl;omega) w
  rwa [show-(z.natAbs:Int)=z by omega] at this
theorem zld (z:Int) (hl:17<(zE z).length) (h2:(zE z).length<=1000) (w:zA):
 zC zF 156 #[St (zE z)] w λe w'=>e=.returned (.tuple #[.int .i64 0,.bool false])/\w'=w:=by
 obtain⟨s,hs⟩:∃s:ByteArray,s=⟨(zE z).toArray⟩:=⟨_,rfl⟩
 have hz:s.size=(zE z).length:=by rw[hs];rfl
 show zC _ _ #[.string ⟨(zE z).toArray⟩] _ _
 rw[<-hs]
 have h1:(17:Int)<s.size:=by omega
 have h3:(s.size:Int)<=1000:=by omega
 clear hs hz hl h2
 go_enter Tryz.func156,Tryz.ntmps156
 go_wp2
 go_ret2
 exact⟨rfl,rfl⟩
theorem ze3 (x y:Int) (hx:(zE x).length<=17) (hy:(zE y).length<=17) (w:zA):
 zC zF 115 #[St (zE x),St (zE y)] w λe w'=>e=.returned (.tuple #[.int .i64 x,.int .i64 y,.bool true])/\w'=w:=by
 have c1:=zh7 x hx w;have c2:=zh7 y hy w
 generalize zE x=u at*
 generalize zE y=v at*
 have C1:=hid c1;have C2:=hid c2
 clear c1 c2 hx hy
 go_enter Tryz.func115,Tryz.ntmps115
 go_wp2_with fail
 refine C1.out.mono ?_
 rintro e w' ⟨rfl,rfl⟩
 go_wp2_with fail
 refine C2.out.mono ?_
 rintro e w'' ⟨rfl,rfl⟩
 go_wp2_with fail
 go_ret3
 exact⟨rfl,rfl⟩
theorem zf5 (x y:Int) (h:17<(zE x).length\/17<(zE y).length) (hx:(zE x).length<=1000) (hy:(zE y).length<=1000) (w:zA):
 zC zF 115 #[St (zE x),St (zE y)] w λe w'=>(∃a b,e=.returned (.tuple #[.int .i64 a,.int .i64 b,.bool false]))/\w'=w:=by
 by_cases h1:17<(zE x).length
 ·have c1:=zld x h1 hx w
  generalize zE x=u at*
  generalize zE y=v at*
  have C1:=hid c1
  clear c1 hx hy h h1
  go_enter Tryz.func115,Tryz.ntmps115
  go_wp2_with fail
  refine C1.out.mono ?_
  rintro e w' ⟨rfl,rfl⟩
  go_wp2_with fail
  go_ret3
  exact⟨⟨_,_,rfl⟩,rfl⟩
 ·have c1:=zh7 x (by omega) w
  have c2:=zld y (by omega) hy w
  generalize zE x=u at*
  generalize zE y=v at*
  have C1:=hid c1;have C2:=hid c2
  clear c1 c2 hx hy h h1
  go_enter Tryz.func115,Tryz.ntmps115
  go_wp2_with fail
  refine C1.out.mono ?_
  rintro e w' ⟨rfl,rfl⟩
  go_wp2_with fail
  refine C2.out.mono ?_
  rintro e w'' ⟨rfl,rfl⟩
  go_wp2_with fail
  go_ret3
  exact⟨⟨_,_,rfl⟩,rfl⟩
end Go.Proofs.YtpichfafdcfbhaaGreatDoor
namespace Go.Proofs.YtpichfafdcfbhaaGreatDoor.Limb
theorem zec {B:Nat} (hB:2<=B):∀(i n:Nat),(zaa B n)[i]?.getD 0=n/B^i%B
 |0,n=>by
  by_cases h:n=0
  ·subst h;rw[zaz];simp
  ·rw[zfl hB h];simp
 |i+1,n=>by
  by_cases h:n=0
  ·subst h;rw[zaz];simp
  ·rw[zfl hB h,List.getElem?_cons_succ,zec hB i,Nat.div_div_eq_div_mul,yO,yP]
theorem zpd {B n V:Nat} (hB:2<=B) (hV:V<B^(n+2)):V/B^(n+1)%B*B+V/B^n%B=V/B^n:=by
 have e:V/B^(n+1)=V/B^n/B:=by rw[yO,Nat.div_div_eq_div_mul]
 have h1:V/B^n<B*B:=by
  rw[Nat.div_lt_iff_lt_mul (Nat.pow_pos (by omega))]
  rw[yO,yO,Nat.mul_assoc,yP] at hV;exact hV
 have h2:V/B^n/B<B:=Nat.div_lt_of_lt_mul h1
 rw[e,Nat.mod_eq_of_lt h2,yP]
 exact Nat.div_add_mod _ _
theorem z16 {B n V R:Nat} (hB:2<=B) (hV:V<B^(n+2)) (_:0<V) (hR:R<B*V):
 ((R/B^(n+2)%B*B+R/B^(n+1)%B)*B+R/B^n%B)/(V/B^(n+1)%B*B+V/B^n%B+1)*V<=R/\
 ((R/B^(n+2)%B*B+R/B^(n+1)%B)*B+R/B^n%B)/(V/B^(n+1)%B*B+V/B^n%B+1)<B:=by
 rw[zpd hB hV]
 have hp:0<B^n:=Nat.pow_pos (by omega)
 have hR2:R<B^(n+3):=by
  rw[show n+3=(n+2)+1 from rfl,yO,yP]
  exact Nat.lt_trans hR (Nat.mul_lt_mul_of_pos_left hV (by omega))
 have hX:(R/B^(n+2)%B*B+R/B^(n+1)%B)*B+R/B^n%B=R/B^n:=by
  have e1:=zpd (n:=n+1) hB hR2
  rw[show n+1+1=n+2 from rfl] at e1
  rw[e1]
  have e:R/B^(n+1)=R/B^n/B:=by rw[yO,Nat.div_div_eq_div_mul]
  rw[e,yP]
  exact Nat.div_add_mod _ _
 rw[hX]
 have k1:V<(V/B^n+1)*B^n:=by rw[yP];exact Nat.lt_mul_div_succ V hp
 have k2:R/B^n/(V/B^n+1)*(V/B^n+1)<=R/B^n:=Nat.div_mul_le_self _ _
 have k3:R/B^n*B^n<=R:=Nat.div_mul_le_self _ _
 have h1:R/B^n/(V/B^n+1)*V<=R:=by
  have a1:=Nat.mul_le_mul_left (R/B^n/(V/B^n+1)) (Nat.le_of_lt k1)
  rw[<-Nat.mul_assoc] at a1
  have a2:=Nat.mul_le_mul_right (B^n) k2
  omega
 refine⟨h1,?_⟩
 exact Nat.lt_of_mul_lt_mul_right (Nat.lt_of_le_of_lt h1 hR)
end Go.Proofs.YtpichfafdcfbhaaGreatDoor.Limb
namespace Go.Proofs.YtpichfafdcfbhaaGreatDoor
open Go.RowKit Go.Shelf Lib Str Limb
attribute [local go_sem] Oper.semAt_some
def outL (N n t:Nat):List Nat:=(List.range N).map λp=>if N-1-p<t then 48+n/10^(N-1-p)%10 else 0
theorem zed (N n t:Nat):(outL N n t).length=N:=by simp[outL]
theorem ze4 (N n t p:Nat) (hp:p<N):(outL N n t)[p]? =some (if N-1-p<t then 48+n/10^(N-1-p)%10 else 0):=by
 simp[outL,hp]
theorem zpe (N n:Nat):outL N n 0=List.replicate N 0:=by
 apply List.ext_getElem?
 intro p
 by_cases hp:p<N
 ·rw[ze4 N n 0 p hp];simp[hp]
 ·rw[List.getElem?_eq_none (by rw[zed];omega),List.getElem?_eq_none (by simp;omega)]
theorem zpf (N n t:Nat) (ht:t<N):(outL N n t).set (N-1-t) (48+n/10^t%10)=outL N n (t+1):=by
 apply List.ext_getElem?
 intro p
 by_cases hp:p<N
 ·rw[ze4 N n (t+1) p hp,List.getElem?_set]
  by_cases he:N-1-t=p
  ·rw[if_pos he,if_pos (by rw[zed];omega)]
   have:N-1-p=t:=by omega
   rw[this,if_pos (by omega)]
  ·rw[if_neg he,ze4 N n t p hp]
   congr 1
   by_cases h1:N-1-p<t
   ·rw[if_pos h1,if_pos (by omega)]
   ·rw[if_neg h1,if_neg (by omega)]
 ·rw[List.getElem?_eq_none (by simp[zed];omega),List.getElem?_eq_none (by rw[zed];omega)]
theorem zle:∀N n,outL N n N=(padD N n).map UInt8.toNat
 |0,_=>rfl
 |N+1,n=>by
  rw[padD,List.map_append,<-zle N (n/10)]
  apply List.ext_getElem?
  intro p
  by_cases hp:p<N+1
  ·rw[ze4 (N+1) n (N+1) p hp,if_pos (by omega)]
   by_cases h:p<N
   ·rw[List.getElem?_append_left (by rw[zed];exact h),ze4 N (n/10) N p h,if_pos (by omega),Nat.div_div_eq_div_mul,show N+1-1-p=(N-1-p)+1 by omega,yO,yP (10^_) 10]
   ·have:p=N:=by omega
    subst this
    rw[List.getElem?_append_right (by rw[zed];omega),zed]
    simp
    omega
  ·rw[List.getElem?_eq_none (by rw[zed];omega),List.getElem?_eq_none (by simp[zed];omega)]
theorem zvc (n i j:Nat) (hj:j<6):n/B6^i%B6/10^j%10=n/10^(6*i+j)%10:=by
 have e:(10:Nat)^(6*i+j)=B6^i*10^j:=by rw[Nat.pow_add,Nat.pow_mul];rfl
 rw[e,<-Nat.div_div_eq_div_mul]
 generalize n/B6^i=a
 have h:B6=10^j*(10*10^(5-j)):=by
  rw[show 10*10^(5-j)=10^(6-j) by rw[show 6-j=(5-j)+1 by omega,yO,yP],<-Nat.pow_add,show j+(6-j)=6 by omega];rfl
 rw[h,Nat.mod_mul_right_div_self,Nat.mod_mul_right_mod]
def RowB (W:zA) (g:Nat) (l:List Nat):Prop:=∃cur:Array Value,W.heap[g]? =some (.cells cur 5 (0,0))/\cur.toList=l.map λx:Nat=>Value.int .u8 (x:Int)
theorem RowB.cell {W:zA} {g:Nat} {l:List Nat} (h:RowB W g l) {j x:Nat} (hx:l[j]? =some x):W.cell? ⟨g,j,none⟩=some (.int .u8 (x:Int)):=by
 obtain⟨cur,h1,h2⟩:=h
 rw[cell_of_row _ _ _ _ _ _ h1,<-Array.getElem?_toList,h2,List.getElem?_map,hx];rfl
theorem RowB.frozen {W:zA} {g:Nat} {l:List Nat} (h:RowB W g l) (j:Nat):W.frozen? ⟨g,j,none⟩=false:=by
 obtain⟨cur,h1,_⟩:=h
 simp[World.frozen?,h1]
theorem RowB.set {W:zA} {g:Nat} {l:List Nat} (h:RowB W g l) (j x:Nat):RowB (W.setCell ⟨g,j,none⟩ (.int .u8 (x:Int))) g (l.set j x):=by
 obtain⟨cur,h1,h2⟩:=h
 refine⟨cur.setIfInBounds j (.int .u8 (x:Int)),by simp[World.setCell,Array.getElem?_modify,h1],?_⟩
 rw[Array.toList_setIfInBounds,h2,List.map_set]
theorem infoByte:(Tryz.prog.info? 5).map (λi=>(i.zero,i.size,i.bytes))=some (some (.int .u8 0),1,1):=by kernel_rfl
theorem zrw {W:zA} {g N base:Nat} (h:W.ownsRow base 5 1 (.slice (some ⟨g,0,none⟩) N N) N ((List.replicate N 0).map λx=>Value.int .u8 ((x:Nat):Int))):RowB W g (List.replicate N 0):=by
 rcases h.2 with⟨e,_⟩|⟨g',cap,cur,e,h1,hg,h2,h3,h4,h5⟩
 ·cases e
 ·simp only[Value.slice.injEq,Option.some.injEq,Addr.mk.injEq,and_true,true_and] at e
  obtain⟨rfl,rfl⟩:=e
  refine⟨cur,hg,?_⟩
  rw[<-h5,List.take_of_length_le (by simp;omega)]
theorem zhf (dd:List UInt8):((⟨#[45]⟩:ByteArray)++(⟨dd.toArray⟩:ByteArray))=⟨(45::dd).toArray⟩:=by
 apply ByteArray.ext
 rw[ByteArray.data_append]
 apply Array.toList_inj.1
 simp
theorem zvd (m:Bool) (vx:Value) (n:Nat) (hn0:0<n) (w:zA) (hx:Sl w vx ((zaa B6 n).map I)) (lx:(zaa B6 n).length<=200):
 qJ 118 #[.agg #[.bool m,vx]] w (St (zE (sgn m n))):=by
 obtain⟨i0,hi,hz0,hz1,hz2⟩:=info_parts infoByte
 have hx':=hx
 obtain⟨px,cx,rfl,hcx, -⟩:=hx'
 simp only[List.length_map] at*
 have hl0:¬(zaa B6 n).length=0:=λh=>(Nat.ne_of_gt hn0) ((zbd (B:=B6) (by decide) n).1 (List.length_eq_zero_iff.1 h))
 have hlb:(((zaa B6 n).length:Int)==0)=false:=by rw[beq_eq_false_iff_ne];omega
 have hlt:=zgb (B:=B6) (by decide) n
 obtain⟨L,hL⟩:∃L,L=(zaa B6 n).length:=⟨_,rfl⟩
 have hb1:qL w (w.alloc (.cells #[.bool m,.slice px (zaa B6 n).length cx] 158)):=(zM _ w).alloc (zN _) _
 have A1:=heap_alloc_new w (.cells #[.bool m,.slice px (zaa B6 n).length cx] 158)
 obtain⟨W1,hW1⟩:∃W1,W1=w.alloc (.cells #[.bool m,.slice px (zaa B6 n).length cx] 158):=⟨_,rfl⟩
 rw[<-hW1] at hb1 A1
 have hlen1:W1.heap.size=w.heap.size+1:=by rw[hW1];simp
 have hx1:=hx.below hb1
 rw[<-hL] at hlb hl0 lx hlt hcx A1 hW1 hx1⊢
 obtain⟨N,hN⟩:∃N,N=6*L:=⟨_,rfl⟩
 have hNi:(6:Int)*(L:Int)=(N:Int):=by omega
 have hNb:N<=1200:=by omega
 have hn6:n<10^N:=by rw[hN,Nat.pow_mul];exact hlt
 have HN:=hid hN;have HL:=hid hL
 have H6:=hid hn6
 have HW1:=hid hW1
 have c10:W1.cell? ⟨w.heap.size,1,none⟩=some (.slice px L cx):=by simp[World.cell?,A1]
 have cells:∀X:zA,qL W1 X->X.cell? ⟨w.heap.size,0,none⟩=some (.bool m)/\X.cell? ⟨w.heap.size,1,none⟩=some (.slice px L cx):=λX h=>by
  have e2:=(h.block w.heap.size (by omega)).trans A1
  refine⟨?_,?_⟩<;>simp[World.cell?,e2]
 have CL:=hid cells
 have H1:=hid (⟨hb1,hlen1,hx1⟩:_/\_/\_)
 clear hN hL hn6 hlt hW1 cells hb1 hlen1 hx1 hx hcx A1
 go_enter Tryz.func118,Tryz.ntmps118
 go_wp2_with (at_make;rw[<-HW1.out];refine wpList_make_full _ rfl _ _ 171 rfl W1.heap.size 5 i0 (.int .u8 0) 1 Tryz.underlying171 hi hz0 hz1 .i64 .i64 _ _ N rfl rfl (by omega) (by omega) (by rw[hz2];omega) (by unfold maxLen;omega) (zN _) ?_)
 intro w2 hown hgrow
 rw[toList_madeCells_one,<-show(List.replicate N 0).map (λx:Nat=>Value.int .u8 (x:Int))=List.replicate N (.int .u8 0) by simp] at hown
 have hrow:=zrw hown
 rw[<-zpe N n] at hrow
 have hB0:qL W1 w2:=(zM _ _).grown hgrow (zN _) (λ_ e=>by cases e)
 have hg2:=(Array.getElem?_eq_some_iff.1 hrow.choose_spec.1).1
 clear hown hgrow c10
 obtain⟨g,hg⟩:∃g,g=W1.heap.size:=⟨_,rfl⟩
 rw[<-hg] at hrow⊢
 have HG:=hid hg;clear hg hg2
 go_wp2
 go_loopw [4] (λi wr=>∃k:Nat,k<=L/\i=.int .i64 k/\RowB wr g (outL N n (6*k))/\Below W1.heap.size W1 wr) (λi _=>L-(zL i).toNat)
 case atStart=>exact⟨0,zR _,rfl,hrow,hB0⟩
 case round=>
  clear hrow hB0
  obtain⟨k,hk,rfl,hrow,hB⟩:=hrel
  obtain⟨c0,c1⟩:=CL.out _ hB
  by_cases hlt:k<L
  ·have hsl:=H1.out.2.2.below hB
   rw[HL.out] at hsl
   obtain⟨bx,ox,rfl, -, -,hcx⟩:=hsl.at (i:=k) (by rw[<-HL.out];exact hlt)
   rw[zec (B:=B6) (by decide)] at hcx
   obtain⟨x0,hx0⟩:∃x0,x0=n/B6^k%B6:=⟨_,rfl⟩
   rw[<-hx0] at hcx
   have hx6:x0<1000000:=by rw[hx0];exact Nat.mod_lt _ (by decide)
   have HX0:=hid hx0
   have HROW:=hid hrow
   have HB:=hid hB
   clear hsl hx0 hrow hB
   go_wp2
   go_loopw [5,6] (λa i wr'=>∃j:Nat,j<=6/\i=.int .i64 ((j:Int)+1)/\a=.int .i64 ((x0/10^j:Nat):Int)/\RowB wr' g (outL N n (6*k+j))/\Below W1.heap.size W1 wr') (λ_ i _=>7-(zL i).toNat)
   case atStart=>exact⟨0,by omega,rfl,by simp,HROW.out,HB.out⟩
   case round=>
    clear HROW HB c0 c1 hcx
    obtain⟨j,hj,rfl,rfl,hrow,hB⟩:=hrel
    by_cases hj6:j<6
    ·obtain⟨t,ht⟩:∃t,t=6*k+j:=⟨_,rfl⟩
     have htN:t<N:=by have:=HN.out;omega
     obtain⟨p,hp⟩:∃p,p=N-1-t:=⟨_,rfl⟩
     have hpi:(N:Int)-6*k-((j:Int)+1)=(p:Int):=by omega
     have hpN:p<N:=by omega
     rw[<-ht] at hrow
     have hcell:=hrow.cell (ze4 N n t p hpN)
     rw[if_neg (show ¬N-1-p<t by omega)] at hcell
     have hfz:=hrow.frozen p
     have hstep:=hrow.set p (48+n/10^t%10)
     rw[hp,zpf N n t htN,<-hp] at hstep
     obtain⟨x,hx⟩:∃x,x=x0/10^j:=⟨_,rfl⟩
     have hxb:x<1000000:=Nat.lt_of_le_of_lt (by rw[hx];exact Nat.div_le_self _ _) hx6
     obtain⟨y,hy⟩:∃y,y=48+x%10:=⟨_,rfl⟩
     have hyd:48+n/10^t%10=y:=by rw[hy,hx,HX0.out,zvc n k j hj6,ht]
     rw[hyd] at hstep
     have hyi:(48:Int)+(x:Int)%10=(y:Int):=by omega
     have hyb:y<=57:=by omega
     have hnext:x/10=x0/10^(j+1):=by rw[hx,Nat.div_div_eq_div_mul,yO]
     have HST:=hid (⟨hstep,hnext,ht⟩:_/\_/\_)
     have HBB:=hid (hB.setCell (p:=⟨g,p,none⟩) (by show W1.heap.size<=g;rw[HG.out];exact zN _) (.int .u8 (y:Int)))
     rw[<-hx]
     clear hstep hnext hy hyd hx hp ht hrow hB hx6
     go_wp2
     go_roundw
     case rel=>exact⟨j+1,by omega,by go_num,by rw[<-HST.out.2.1];show Value.int .i64 _=Value.int .i64 _;congr 1,by rw[show 6*k+(j+1)=6*k+j+1 by omega,<-HST.out.2.2];exact HST.out.1,HBB.out⟩
     case measure=>simp[zL];omega
    ·obtain rfl:j=6:=by omega
     have HROW:=hid hrow
     have HBB:=hid hB
     clear hrow hB
     generalize x0/10^6=xx at*
     go_wp2
     go_roundw
     case rel=>exact⟨k+1,by omega,by go_num,by rw[show 6*(k+1)=6*k+6 by omega];exact HROW.out,HBB.out⟩
     case measure=>simp[zL];omega
  ·obtain rfl:k=L:=by omega
   have hN6:6*k=N:=HN.out.symm
   rw[hN6,zle] at hrow
   have hD:=zan n
   obtain⟨D,hDl⟩:∃D,D=(zD n).length:=⟨_,rfl⟩
   have hpd:=zjv N n (by omega) H6.out
   rw[<-hDl] at hpd
   have hDN:D<=N:=by
    have h1:=zhw N n
    rw[hpd,List.length_append,List.length_replicate,<-hDl] at h1;omega
   have hD1:1<=D:=by have:=zbn (n:Int);unfold digs at this;rw[hDl];simpa using this
   obtain⟨Z,hZ⟩:∃Z,Z=N-D:=⟨_,rfl⟩
   rw[<-hZ] at hpd
   have cz:∀z,z<Z->wr.cell? ⟨g,z,none⟩=some (.int .u8 48):=λz hz=>by
    have:=hrow.cell (j:=z) (x:=48) (by rw[hpd,List.getElem?_map,List.getElem?_append_left (by simp;exact hz)];simp[hz])
    exact this
   have cd:∀j (hj:j<(zD n).length),wr.cell? ⟨g,Z+j,none⟩=some (.int .u8 ((zD n)[j].toNat:Int)):=λj hj=>by
    have:=hrow.cell (j:=Z+j) (x:=(zD n)[j].toNat) (by rw[hpd,List.getElem?_map,List.getElem?_append_right (by simp)];simp[hj])
    exact this
   have hf:∃c,(zD n)[0]? =some c/\c.toNat≠48:=by
    cases hdd:zD n with
    |nil=>rw[hDl,hdd] at hD1;simp at hD1
    |cons c r=>exact⟨c,rfl,zzE hn0 c r hdd⟩
   obtain⟨c,hc0,hc48⟩:=hf
   have cd0:wr.cell? ⟨g,Z,none⟩=some (.int .u8 (c.toNat:Int)):=by
    have:=cd 0 (by omega)
    rw[Nat.add_zero] at this
    rw[this]
    have e:(zD n)[0]'(by omega)=c:=by
     have:=yB (l:=zD n) (i:=0) (by omega)
     rw[hc0] at this;exact(Option.some.inj this).symm
    rw[e]
   have CZ:=hid cz
   have CONV:=hid (run_convert_bytes_back (P:=zF) wr 171 9 5 ⟨g,Z,none⟩ D (zD n) Tryz.underlying171 Tryz.underlying5 Tryz.underlying9 (λj hj=>by
    have:((⟨g,Z,none⟩:Addr).add j)=⟨g,Z+j,none⟩:=by simp only[Addr.add];split<;>simp_all
    rw[this];exact cd j hj))
   rw[<-hDl] at CONV
   have HBW:=hid (H1.out.1.trans (hB.mono (by have:=H1.out.2.1;omega)))
   have hc48':(((c.toNat:Nat):Int)==48)=false:=by rw[beq_eq_false_iff_ne];omega
   have hZN:Z+D=N:=by omega
   have HD:=hid hDl
   clear hrow cz cd hpd hc0 hDl hZ hc48 hD H6
   go_wp2
   go_loop [3] (λv=>∃z d:Nat,z<=Z/\z+d=N/\v=.slice (some ⟨g,z,none⟩) d d) (λv=>zqm v)
   case atStart=>exact⟨0,N,zR _,by omega,rfl⟩
   case round=>
    obtain⟨z,d,hz,hzd,rfl⟩:=hrel
    by_cases hzZ:z<Z
    ·have hcell:=CZ.out z hzZ
     go_wp2
     go_round
     case rel=>exact⟨z+1,d-1,by omega,by omega,rfl⟩
     case measure=>simp[zqm];omega
    ·obtain rfl:z=Z:=by omega
     obtain rfl:d=D:=by omega
     have conv:=CONV.out
     have HRES:=hid (show zE (sgn m n)=if m then 45::zD n else zD n by
      cases m
      ·rw[zkw];exact Str.zad n
      ·rw[zy0];exact Str.zga n hn0)
     have hdl:(zD n).length<=1200:=by rw[<-HD.out];omega
     clear CONV CZ CL H1 HW1 HN HL HD hlb
     generalize zD n=dd at*
     have hdl2:¬(9223372036854775807<1+dd.length):=by omega
     cases m
     ·go_wp2
      go_ret
      exact⟨by rw[HRES.out];rfl,HBW.out⟩
     ·go_wp2
      go_ret
      refine⟨?_,HBW.out⟩
      have e:=HRES.out
      simp only[if_true] at e
      rw[e]
      show Ending.returned (.string (_++_))=_
      rw[zhf]
end Go.Proofs.YtpichfafdcfbhaaGreatDoor
namespace Go.Proofs.YtpichfafdcfbhaaGreatDoor
open Go.RowKit Lib Str Limb
theorem zvf (va:Value) (a:List Nat) (d:Nat) (w:zA) (ha:Sl w va (a.map I)) (la:a.length<=1000) (sa:zal B6 a) (hd0:0<d) (hd:d<B6):
 zC zF 158 #[va,I d] w (λe w'=>∃v1 v2,e=.returned (.tuple #[v1,v2])/\Sl w' v1 ((zaa B6 (valL B6 a/d)).map I)/\Sl w' v2 ((zaa B6 (valL B6 a%d)).map I)/\Below w.heap.size w w'):=by
 obtain⟨i0,hi,hz0,hz1,hz2⟩:=info_parts zdv
 have ha':=ha
 obtain⟨pa,ca,rfl,hca,hcella⟩:=ha
 have HA:=hid ha';clear ha' hcella hca
 have SA:=hid sa;clear sa
 simp only[List.length_map] at*
 have hd':d<1000000:=hd
 clear hd
 have hdz:¬(d:Int)=0:=by omega
 go_enter Tryz.func158,Tryz.ntmps158
 go_wp2_with (at_make;refine wpList_make_full _ rfl _ _ 79 rfl w.heap.size 3 i0 (.int .i64 0) 1 Tryz.underlying79 hi hz0 hz1 .i64 .i64 _ _ a.length rfl rfl (by omega) (by omega) (by rw[hz2];omega) (by unfold maxLen;omega) (zN _) ?_)
 intro w0 hown hgrow
 rw[toList_madeCells_one,<-show(List.replicate a.length 0).map I=List.replicate a.length (.int .i64 0) by simp] at hown
 obtain⟨hrow, -⟩:=Row.of_own hown
 have hB0:qL w w0:=(zM _ _).grown hgrow (zN _) (λ_ e=>by cases e)
 clear hown hgrow
 obtain⟨N,hN⟩:∃N,N=a.length:=⟨_,rfl⟩
 obtain⟨g,hg⟩:∃g,g=w.heap.size:=⟨_,rfl⟩
 rw[<-hg] at hrow⊢
 have HG:=hid hg;clear hg
 rw[<-hN] at hrow⊢
 have HN:=hid hN
 have hN1:N<=1000:=by omega
 clear hN la
 go_wp2
 go_loopw [7,8] (λc i wr=>∃k:Nat,k<=N/\i=.int .i64 ((N:Int)-1-k)/\c=I (za8 B6 d a k).2/\Row wr g N (za8 B6 d a k).1/\Below w.heap.size w wr)
  (λ_ i _=>(zL i+1).toNat)
 case atStart=>exact⟨0,zR _,by simp,rfl,by rw[za8,<-HN.out];exact hrow,hB0⟩
 case round=>
  clear hrow hB0
  obtain⟨k,hk,rfl,rfl,hrow,hB⟩:=hrel
  obtain⟨s1,s2,s3, -⟩:=zeo (B:=B6) hd0 SA.out k (by rw[<-HN.out];exact hk)
  by_cases hlt:k<N
  ·obtain⟨j,hj⟩:∃j,j=N-1-k:=⟨_,rfl⟩
   have hjI:(N:Int)-1-k=(j:Int):=by omega
   rw[hjI]
   have hja:j<a.length:=by rw[<-HN.out];omega
   obtain⟨ba,offa,rfl,hba,hcapa,hcx⟩:=(HA.out.below hB).at hja
   have hst:za8 B6 d a (k+1)=zdl B6 d (za8 B6 d a k) j (a[j]?.getD 0):=by rw[hj,HN.out];rfl
   have hx:=zaj SA.out (by decide) j
   have hx':a[j]?.getD 0<1000000:=hx
   have hJ:=hid hj
   have hjN:j<N:=by omega
   have hj1:j=N-1-k:=hj
   have hj2:(j:Int)-1=(N:Int)-1-((k+1:Nat):Int):=by omega
   have HJ2:=hid hj2
   have hlen:j<(za8 B6 d a k).1.length:=by rw[s1];exact hja
   have HST:=hid hst
   clear hst hx hj hj1 hj2 s1 s2 hjI
   generalize za8 B6 d a k=s at*
   obtain⟨l,r⟩:=s
   dsimp only at*
   generalize a[j]?.getD 0=x at*
   obtain⟨n,hn⟩:∃n,n=x+r*1000000:=⟨_,rfl⟩
   have hnI:(r:Int)*1000000+x=(n:Int):=by omega
   have e1:IntKind.i64.wrap ((r:Int)*1000000)=(r:Int)*1000000:=zI _ (by omega)
   have e2:IntKind.i64.wrap ((r:Int)*1000000+x)=(n:Int):=by rw[hnI];exact zI _ (by omega)
   obtain⟨q,hq⟩:∃q,q=n/d:=⟨_,rfl⟩
   obtain⟨m,hm⟩:∃m,m=n%d:=⟨_,rfl⟩
   have hq1:q<=n:=by rw[hq];exact Nat.div_le_self _ _
   have hm1:m<d:=by rw[hm];exact Nat.mod_lt _ hd0
   have hq2:q<2000000000000:=by
    have:=Nat.mul_le_mul (show r<=999999 by omega) (zN 1000000)
    omega
   have hm2:m<1000000:=by omega
   have e3:(n:Int)/(d:Int)=(q:Int):=by rw[<-Int.natCast_ediv,<-hq]
   have e4:(n:Int)%(d:Int)=(m:Int):=by rw[<-Int.natCast_emod,<-hm]
   have hcell:=hrow.cell (zih hlen)
   have hfz:=hrow.frozen j
   have HROW:=hid hrow
   have HQ:=hid (⟨by rw[hq,hn],by rw[hm,hn]⟩:q=(x+r*1000000)/d/\m=(x+r*1000000)%d)
   clear hrow hlen hn hnI hq hm hq1 hm1
   generalize l[j]?.getD 0=z at*
   go_wp2
   go_roundw
   case rel=>
    refine⟨k+1,by omega,by rw[<-HJ2.out],by rw[HST.out,e4];show I m=I ((x+r*B6)%d);rw[HQ.out.2];rfl,?_,?_⟩
    ·rw[HST.out]
     show Row _ g N (l.set j ((x+r*B6)/d))
     rw[show(x+r*B6)/d=q from HQ.out.1.symm]
     exact Row.set HROW.out j q
    ·exact hB.setCell (by rw[HG.out];exact zN _) _
   case measure=>simp[zL]
  ·obtain rfl:k=N:=by omega
   have hend:(k:Int)-1-k= -1:=by omega
   rw[hend]
   obtain⟨f1,f2⟩:=zjq (B:=B6) (by decide) hd0 SA.out
   rw[<-HN.out] at f1 f2 s1
   have hsl:=hrow.sl
   rw[s1] at hsl
   have hr:(za8 B6 d a k).2<1000000:=by omega
   have HF:=hid (⟨f1,f2⟩:_/\_)
   have HSL:=hid hsl
   have HS1:=hid s1
   have HROW:=hid hrow
   clear f1 f2 s1 s2 s3 hsl hrow hend
   generalize hs:za8 B6 d a k=s at*
   obtain⟨l,r⟩:=s
   dsimp only at*
   have HSS:=hid hs;clear hs
   go_wp2_with fail
   refine(zeb _ _ _ l wr HSL.out (by rw[HS1.out];omega)).mono ?_
   rintro e w1 ⟨rfl,rfl⟩
   go_wp2_with fail
   have b1:qL wr (wr.alloc (.cells #[I r] 3)):=(zM _ wr).alloc (zN _) _
   have A1:=heap_alloc_new wr (.cells #[I r] 3)
   have hs1:Sl (wr.alloc (.cells #[I r] 3)) (.slice (some ⟨wr.heap.size,0,none⟩) 1 1) ([r].map I):=by
    refine⟨_,_,rfl,zN _,λi x hx=>⟨_,_,rfl,?_⟩⟩
    match i,hx with
    |0,hx=>rw[<-hx];exact cell_of_row _ _ _ _ _ _ A1
   refine(zeb _ _ _ [r] _ hs1 (by simp)).mono ?_
   rintro e w1 ⟨rfl,hw1⟩
   have hw1':=hw1.symm;subst hw1'
   go_wp2_with fail
   go_ret2
   refine⟨_,_,rfl,?_,?_,hB.trans (b1.mono hB.size)⟩
   ·rw[<-HF.out.1]
    exact(Sl.trim_at HSL.out HS1.out).below b1
   ·rw[<-HF.out.2,<-zqr (B:=B6) (by decide) (show r<B6 from hr)]
    exact Sl.trim_at (n:=1) hs1 rfl
end Go.Proofs.YtpichfafdcfbhaaGreatDoor
