/- kingpostref02: digits, small, gcd, split. -/
import Derived.Test.YtccijmidbdapaaaGreatDoorJ14
import Derived.Maps.AppendAt
import Derived.Lib.IndexAny
set_option maxRecDepth 100000
set_option maxHeartbeats 8000000
open Go renaming World → zA, Calls → zC
open Go.Lib renaming decDigits → zD
open Go.Proofs.Tryz renaming prog → zF
open Go.IntWalk renaming i64_in → zI
open Go.RowKit renaming intOf → zL
open Go.RowKit.Below renaming refl → zM
open Nat renaming zero_le → zR
open List renaming getElem_mem → zY, getElem?_eq_getElem → yB
namespace Go.Proofs.YtccijmidbdapaaaGreatDoor
open Go.RowKit Go.Shelf Lib Str Limb
attribute [local go_sem] Oper.semAt_some
theorem zzt (a b:Nat) (ha:a<1000000000000000000) (hb:b<1000000000000000000) (w:zA):
 zC zF 53 #[I a,I b] w λe w'=>∃nd,e=.returned (I (Nat.gcd a b))/\w'=w.drewN nd:=by
 obtain⟨g,hg⟩:∃g,g=Nat.gcd a b:=⟨_,rfl⟩
 rw[<-hg]
 have HG:=hid hg;clear hg
 go_enter Tryz.func53,Tryz.ntmps53
 go_wp2
 go_loopw [0,1] (λx y wr=>∃m n:Nat,x=I m/\y=I n/\Hid (Nat.gcd m n=g)/\m<1000000000000000000/\n<1000000000000000000/\∃nd,wr=w.drewN nd)
  (λ_ y _=>(zL y).toNat)
 case atStart=>exact⟨a,b,rfl,rfl,HG.out.symm,ha,hb,0,rfl⟩
 case round=>
  clear ha hb
  obtain⟨m,n,rfl,rfl,hgm,m1,n1,nd,rfl⟩:=hrel
  by_cases h0:n=0
  ·subst h0
   have hm:m=g:=by have:=hgm.out;rw[Nat.gcd_zero_right] at this;exact this
   have HM:=hid hm;clear hm
   go_wp2
   go_ret
   exact⟨nd,by rw[HM.out];rfl,rfl⟩
  ·have hn0:((n:Int) !=0)=true:=by simp;omega
   obtain⟨t,ht⟩:∃t,t=m%n:=⟨_,rfl⟩
   have ht1:t<n:=by rw[ht];exact Nat.mod_lt _ (by omega)
   have hgt:=zh1 m n
   rw[<-ht] at hgt
   have hwr:IntKind.i64.wrap ((m:Int).tmod n)=(t:Int):=by
    rw[Int.tmod_eq_emod_of_nonneg (by omega),<-Int.natCast_emod,<-ht];exact zI _ (by omega)
   have hwe:((m:Int).tmod n)=(t:Int):=by rw[Int.tmod_eq_emod_of_nonneg (by omega),<-Int.natCast_emod,<-ht]
   have HGT:=hid hgt;have HW:=hid hwe;clear hgt ht hwe
   go_wp2
   (refine wp_region_quiet_lit (by kernel_rfl) (by kernel_rfl) (WQ.out ?_);(repeat(first|(apply WQ.read (by rfl);(focus(rintro W ⟨n,rfl⟩;go_simp;try with_reducible rfl));try simp only[zzQ])|(apply WQ.skip (by rfl);try simp only[zzQ])));refine WQ.nil ?_;rintro _ ⟨nq,rfl⟩)
   go_wp2
   go_roundw
   case rel=>exact⟨n,t,rfl,by first|rfl|(rw[HW.out])|(show Value.int .i64 _=Value.int .i64 _;congr 1;have:=HW.out;rw[<-this,Int.tmod_eq_emod_of_nonneg (by omega)]),HGT.out.trans hgm.out,n1,by omega,_,World.drewN_drewN _ _ _⟩
   case measure=>first|(show((m:Int).tmod n).toNat<(n:Int).toNat;rw[HW.out];omega)|(simp[zL];omega)
theorem zdd (l:List UInt8) (s:ByteArray) (hs:s=⟨l.toArray⟩):s.size=l.length/\∀k (hk:k<l.length) (hb:k<s.size),s[k]'hb=l[k]'hk:=by
 subst hs
 exact⟨by show l.toArray.size=_;simp,λk hk hb=>rfl⟩
theorem ztc (l:List UInt8):zds l↔l.length≠0/\¬(1<l.length/\l.head? =some 48)/\∀k (hk:k<l.length),48<=(l[k]'hk).toNat/\(l[k]'hk).toNat<=57:=by
 constructor
 ·rintro⟨h1,h2,h3⟩
  exact⟨λh=>h1 (List.length_eq_zero_iff.1 h),λ⟨h4,h5⟩=>by have:=h3 h5;omega,λk hk=>h2 _ (zY hk)⟩
 ·rintro⟨h1,h2,h3⟩
  refine⟨λh=>h1 (by rw[h];rfl),λc hc=>?_,λh=>?_⟩
  ·obtain⟨k,hk,rfl⟩:=List.getElem_of_mem hc
   exact h3 k hk
  ·exact Nat.le_antisymm (Nat.le_of_not_lt λh4=>h2 ⟨h4,h⟩) (by omega)
theorem zme (l:List UInt8) (hl:l.length<=1000000) (w:zA):
 zC zF 52 #[St l] w λe w'=>∃b,e=.returned (.bool b)/\(b=true↔zds l)/\w'=w:=by
 rw[ztc]
 obtain⟨s,hs⟩:∃s:ByteArray,s=⟨l.toArray⟩:=⟨_,rfl⟩
 obtain⟨b1,b2⟩:=zdd l s hs
 show zC _ _ #[.string ⟨l.toArray⟩] _ _
 rw[<-hs]
 have hh:∀hb:0<s.size,l.head? =some 48↔(s[0]'hb).toNat=48:=λhb=>by
  have h0:0<l.length:=by omega
  rw[b2 0 h0 hb,List.head?_eq_getElem?,yB h0]
  constructor
  ·intro h;injection h with h;rw[h];rfl
  ·intro h;congr 1;exact UInt8.toNat_inj.1 (by rw[h];rfl)
 obtain⟨Q,hQ⟩:∃Q:Prop,Q=(l.length≠0/\¬(1<l.length/\l.head? =some 48)/\∀k (hk:k<l.length),48<=(l[k]'hk).toNat/\(l[k]'hk).toNat<=57):=⟨_,rfl⟩
 rw[<-hQ]
 have q1:s.size=0->¬Q:=λh=>by rw[hQ];exact λk=>k.1 (by omega)
 have q2:∀hb:0<s.size,1<s.size->(s[0]'hb).toNat=48->¬Q:=λhb h h'=>by rw[hQ];exact λk=>k.2.1 ⟨by omega,(hh hb).2 h'⟩
 have q3:∀k (hb:k<s.size),((s[k]'hb).toNat<48\/57<(s[k]'hb).toNat)->¬Q:=λk hb h=>by
  rw[hQ];intro k'
  have:=k'.2.2 k (by omega);rw[b2 k (by omega) hb] at h;omega
 have q4:∀hb:0<s.size,¬(1<s.size/\(s[0]'hb).toNat=48)->(∀k (hb:k<s.size),48<=(s[k]'hb).toNat/\(s[k]'hb).toNat<=57)->Q:=λhb h h'=>by
  rw[hQ];exact⟨by omega,λ⟨k1,k2⟩=>h ⟨by omega,(hh hb).1 k2⟩,λk hk=>by have:=h' k (by omega);rwa [b2 k hk (by omega)] at this⟩
 have hsz:s.size<=1000000:=by omega
 have Q1:=hid q1;have Q2:=hid q2;have Q3:=hid q3;have Q4:=hid q4
 clear q1 q2 q3 q4 hh hQ b1 b2 hs hl
 go_enter Tryz.func52,Tryz.ntmps52
 by_cases h0:s.size=0
 ·have h0':((s.size:Int)==0)=true:=by simpa using h0
  go_wp2
  go_ret
  exact⟨false,rfl,⟨λh=>by simp at h,λh=>absurd h (Q1.out h0)⟩,rfl⟩
 ·have h0':((s.size:Int)==0)=false:=by simpa using h0
  have h00:0<s.size:=by omega
  by_cases h1:1<s.size
  ·have h1':(1:Int)<s.size:=by omega
   by_cases h2:(s[0]'h00).toNat=48
   ·have h2':(((s[0]'h00).toNat:Int)==48)=true:=by rw[h2];rfl
    have HN:=hid (Q2.out h00 h1 h2);clear h2
    go_wp2
    go_ret
    exact⟨false,rfl,⟨λh=>by simp at h,λh=>absurd h HN.out⟩,rfl⟩
   ·have h2':(((s[0]'h00).toNat:Int)==48)=false:=by rw[beq_eq_false_iff_ne];omega
    have HN:=hid h2;clear h2
    go_wp2
    go_loop [3] (λi=>∃k:Nat,k<=s.size/\i=.int .i64 k/\Hid (∀j (hb:j<s.size),j<k->48<=(s[j]'hb).toNat/\(s[j]'hb).toNat<=57)) (λi=>s.size-(zL i).toNat)
    case atStart=>exact⟨0,zR _,rfl,λj _ h=>by omega⟩
    case round=>
     obtain⟨k,hk,rfl,hP⟩:=hrel
     by_cases hlt:k<s.size
     ·by_cases d1:(s[k]'hlt).toNat<48
      ·have e1:(((s[k]'hlt).toNat:Int))<48:=by omega
       have HN:=hid (Q3.out k hlt (.inl d1));clear d1
       go_wp2
       go_ret
       first|exact .inl ⟨rfl,HN.out,rfl⟩|exact⟨false,rfl,⟨λh=>by simp at h,λh=>absurd h HN.out⟩,rfl⟩
      ·by_cases d2:57<(s[k]'hlt).toNat
       ·have e1:(48:Int)<=(s[k]'hlt).toNat:=by omega
        have e2:(57:Int)<(s[k]'hlt).toNat:=by omega
        have HN:=hid (Q3.out k hlt (.inr d2));clear d1 d2
        go_wp2
        go_ret
        first|exact .inl ⟨rfl,HN.out,rfl⟩|exact⟨false,rfl,⟨λh=>by simp at h,λh=>absurd h HN.out⟩,rfl⟩
       ·have e1:(48:Int)<=(s[k]'hlt).toNat:=by omega
        have e2:((s[k]'hlt).toNat:Int)<=57:=by omega
        have hnext:∀j (hb:j<s.size),j<k+1->48<=(s[j]'hb).toNat/\(s[j]'hb).toNat<=57:=λj hb h=>by
         by_cases e:j=k
         ·subst e;omega
         ·exact hP.out j hb (by omega)
        have HN:=hid hnext;clear hnext d1 d2
        go_wp2
        go_round
        case rel=>exact⟨k+1,by omega,by go_num,HN⟩
        case measure=>simp[zL];omega
     ·have hq:=Q4.out h00 (λh=>HN.out h.2) (λj hb=>hP.out j hb (by omega))
      have HQ:=hid hq;clear hq
      go_wp2
      go_ret
      first|exact .inr ⟨rfl,HQ.out,rfl⟩|exact⟨true,rfl,⟨λ_=>HQ.out,λ_=>rfl⟩,rfl⟩
  ·have h1':¬(1:Int)<s.size:=by omega
   go_wp2
   go_loop [3] (λi=>∃k:Nat,k<=s.size/\i=.int .i64 k/\Hid (∀j (hb:j<s.size),j<k->48<=(s[j]'hb).toNat/\(s[j]'hb).toNat<=57)) (λi=>s.size-(zL i).toNat)
   case atStart=>exact⟨0,zR _,rfl,λj _ h=>by omega⟩
   case round=>
    obtain⟨k,hk,rfl,hP⟩:=hrel
    by_cases hlt:k<s.size
    ·by_cases d1:(s[k]'hlt).toNat<48
     ·have e1:(((s[k]'hlt).toNat:Int))<48:=by omega
      have HN:=hid (Q3.out k hlt (.inl d1));clear d1
      go_wp2
      go_ret
      first|exact .inl ⟨rfl,HN.out,rfl⟩|exact⟨false,rfl,⟨λh=>by simp at h,λh=>absurd h HN.out⟩,rfl⟩
     ·by_cases d2:57<(s[k]'hlt).toNat
      ·have e1:(48:Int)<=(s[k]'hlt).toNat:=by omega
       have e2:(57:Int)<(s[k]'hlt).toNat:=by omega
       have HN:=hid (Q3.out k hlt (.inr d2));clear d1 d2
       go_wp2
       go_ret
       first|exact .inl ⟨rfl,HN.out,rfl⟩|exact⟨false,rfl,⟨λh=>by simp at h,λh=>absurd h HN.out⟩,rfl⟩
      ·have e1:(48:Int)<=(s[k]'hlt).toNat:=by omega
       have e2:((s[k]'hlt).toNat:Int)<=57:=by omega
       have hnext:∀j (hb:j<s.size),j<k+1->48<=(s[j]'hb).toNat/\(s[j]'hb).toNat<=57:=λj hb h=>by
        by_cases e:j=k
        ·subst e;omega
        ·exact hP.out j hb (by omega)
       have HN:=hid hnext;clear hnext d1 d2
       go_wp2
       go_round
       case rel=>exact⟨k+1,by omega,by go_num,HN⟩
       case measure=>simp[zL];omega
    ·have hq:=Q4.out h00 (λh=>h1 h.1) (λj hb=>hP.out j hb (by omega))
     have HQ:=hid hq;clear hq
     go_wp2
     go_ret
     first|exact .inr ⟨rfl,HQ.out,rfl⟩|exact⟨true,rfl,⟨λ_=>HQ.out,λ_=>rfl⟩,rfl⟩
theorem znz (l:List UInt8) (hd:∀c∈l,48<=c.toNat/\c.toNat<=57) (hl:l.length<=9) (w:zA):
 zC zF 54 #[St l] w λe w'=>e=.returned (I (val l))/\w'=w:=by
 obtain⟨s,hs⟩:∃s:ByteArray,s=⟨l.toArray⟩:=⟨_,rfl⟩
 obtain⟨b1,b2⟩:=zdd l s hs
 have hvt:=λk hk=>ziu (l:=l) hd (k:=k) hk
 have hst:∀k (hb:k<s.size),48<=(s[k]'hb).toNat/\(s[k]'hb).toNat<=57/\val (l.take (k+1))=10*val (l.take k)+((s[k]'hb).toNat-48):=λk hb=>by
  have hk:k<l.length:=by omega
  rw[b2 k hk hb,List.take_succ_eq_append_getElem hk,zde]
  exact⟨(hd _ (zY hk)).1,(hd _ (zY hk)).2,rfl⟩
 have hfull:val (l.take s.size)=val l:=by rw[b1,List.take_length]
 show zC _ _ #[.string ⟨l.toArray⟩] _ _
 rw[<-hs]
 have hs9:s.size<=9:=by omega
 generalize hvf:(λk=>val (l.take k))=vf at*
 have hvt':∀k,k<=9->vf k<1000000000:=by rw[<-hvf];exact hvt
 have hst':∀k (hb:k<s.size),48<=(s[k]'hb).toNat/\(s[k]'hb).toNat<=57/\vf (k+1)=10*vf k+((s[k]'hb).toNat-48):=by rw[<-hvf];exact hst
 have hfull':vf s.size=val l:=by rw[<-hvf];exact hfull
 have hv0:vf 0=0:=by rw[<-hvf];rfl
 generalize val l=vl at*
 have VT:=hid hvt';have ST:=hid hst';have HF:=hid hfull';have V0:=hid hv0
 clear hvt' hst' hfull' hv0 hvt hst hfull hvf b1 b2 hs hd hl
 go_enter Tryz.func54,Tryz.ntmps54
 go_wp2
 go_loop [3,4] (λa i=>∃k:Nat,k<=s.size/\i=.int .i64 k/\a=.int .i64 (vf k:Nat)) (λ_ i=>s.size-(zL i).toNat)
 case atStart=>exact⟨0,zR _,rfl,by rw[V0.out];rfl⟩
 case round=>
  obtain⟨k,hk,rfl,rfl⟩:=hrel
  by_cases hlt:k<s.size
  ·obtain⟨c1,c2,c3⟩:=ST.out k hlt
   have hv:=VT.out k (by omega)
   generalize vf k=v at*
   have C3:=hid c3;clear c3
   have d1:(48:Int)<=(s[k].toNat:Int):=by omega
   have d2:(s[k].toNat:Int)<=57:=by omega
   go_wp2
   go_round
   case rel=>exact⟨k+1,by omega,by go_num,by rw[C3.out];show Value.int .i64 _=Value.int .i64 _;congr 1;omega⟩
   case measure=>simp[zL];omega
  ·have hk':k=s.size:=by omega
   have HK:=hid hk';clear hk'
   go_wp2
   go_ret
   exact⟨by rw[HK.out,HF.out];rfl,rfl⟩
theorem zmf (l:List UInt8) (k:Nat):((⟨l.toArray⟩:ByteArray).extract 0 k)=⟨(l.take k).toArray⟩:=by
 apply ByteArray.ext
 rw[ByteArray.data_extract]
 simp
theorem zev (l:List UInt8) (k:Nat):((⟨l.toArray⟩:ByteArray).extract k (⟨l.toArray⟩:ByteArray).size)=⟨(l.drop k).toArray⟩:=by
 have:(⟨l.toArray⟩:ByteArray).size=l.length:=by show l.toArray.size=_;simp
 rw[this]
 apply ByteArray.ext
 rw[ByteArray.data_extract]
 simp[List.take_of_length_le]
theorem zmg (b:List UInt8) (k:Nat) (hk:k<b.length) (h1:∀j (hj:j<b.length),j<k->b[j]'hj≠47) (h2:b[k]'hk=47):
 b.takeWhile (· !=47)=b.take k/\(b.dropWhile (· !=47)).tail=b.drop (k+1)/\(47:UInt8)∈b:=by
 have e:b=b.take k++47::b.drop (k+1):=by
  rw[<-h2,List.getElem_cons_drop,List.take_append_drop]
 have hn:(47:UInt8)∉b.take k:=by
  intro h
  obtain⟨j,hj,e⟩:=List.getElem_of_mem h
  rw[List.getElem_take] at e
  simp at hj
  exact h1 j (by omega) (by omega) e
 obtain⟨t1,t2⟩:=zty (b:=b.drop (k+1)) hn
 refine⟨?_,?_,by rw[e];simp⟩
 ·conv=>lhs;rw[e]
  exact t1
 ·conv=>lhs;rw[e]
  rw[t2];rfl
theorem zrt (b:List UInt8) (h1:∀j (hj:j<b.length),b[j]'hj≠47):b.takeWhile (· !=47)=b/\(b.dropWhile (· !=47)).tail=[]/\(47:UInt8)∉b:=by
 have hn:(47:UInt8)∉b:=λh=>by
  obtain⟨j,hj,e⟩:=List.getElem_of_mem h
  exact h1 j hj e
 refine⟨zjy hn,?_,hn⟩
 have:b.dropWhile (· !=47)=[]:=by
  have h2:=List.takeWhile_append_dropWhile (p:=(· !=(47:UInt8))) (l:=b)
  rw[zjy hn] at h2
  exact List.append_right_eq_self.1 h2
 rw[this];rfl
def zeg (m:Bool) (b:List UInt8):Value:=.tuple #[.bool m,St (b.takeWhile (· !=47)),St ((b.dropWhile (· !=47)).tail),.bool (decide ((47:UInt8)∈b))]
theorem zru (b:List UInt8) (hm:b.head? ≠some 45) (hl:b.length<=1000000) (w:zA):
 qJ 51 #[St b] w (zeg false b):=by
 obtain⟨t,ht⟩:∃t:ByteArray,t=⟨b.toArray⟩:=⟨_,rfl⟩
 obtain⟨b1,b2⟩:=zdd b t ht
 have kf:∀k (hk:k<t.size),(t[k]'hk).toNat=47->(∀j (hb:j<t.size),j<k->(t[j]'hb).toNat≠47)->zeg false b=.tuple #[.bool false,.string (t.extract 0 k),.string (t.extract (k+1) t.size),.bool true]:=λk hk h1 h2=>by
  have hk':k<b.length:=by omega
  obtain⟨e1,e2,e3⟩:=zmg b k hk' (λj hj hjk he=>h2 j (by omega) hjk (by rw[b2 j hj (by omega),he];rfl)) (UInt8.toNat_inj.1 (by rw[<-b2 k hk' hk,h1];rfl))
  unfold zeg
  rw[e1,e2,decide_eq_true e3,ht,zmf,zev]
 have kn:(∀j (hb:j<t.size),(t[j]'hb).toNat≠47)->zeg false b=.tuple #[.bool false,.string t,.string ⟨#[]⟩,.bool false]:=λh2=>by
  obtain⟨e1,e2,e3⟩:=zrt b (λj hj he=>h2 j (by omega) (by rw[b2 j hj (by omega),he];rfl))
  unfold zeg
  rw[e1,e2,decide_eq_false e3,ht]
 have KF:=hid kf;have KN:=hid kn
 clear kf kn
 have h0:t.size=0\/0<t.size/\∀hb:0<t.size,(((t[0]'hb).toNat:Int)==45)=false:=by
  by_cases h:t.size=0
  ·exact .inl h
  ·refine .inr ⟨by omega,λhb=>?_⟩
   rw[beq_eq_false_iff_ne]
   intro h'
   have hb0:0<b.length:=by omega
   refine hm ?_
   rw[List.head?_eq_getElem?,yB hb0]
   congr 1
   rw[b2 0 hb0 hb] at h'
   exact UInt8.toNat_inj.1 (by have:(45:UInt8).toNat=45:=rfl;omega)
 have hsz:t.size<=1000000:=by omega
 show zC _ _ #[.string ⟨b.toArray⟩] _ _
 rw[<-ht]
 clear b1 b2 ht hl hm
 generalize zeg false b=v at*
 go_enter Tryz.func51,Tryz.ntmps51
 rcases h0 with h0|⟨h0,h1⟩
 ·have h0':¬(0:Int)<t.size:=by omega
  have h9:=KN.out λj hb=>by omega
  have HN:=hid h9;clear h9
  go_wp2
  refine wp_loop_rounds 1 ?_
  rw[rounds_succ]
  go_wp2
  refine bodyPost_ret (v:=.tuple #[.bool false,.string t,.string ⟨#[]⟩,.bool false]) (by simp[results,Tryz.results51,go_sem]) rfl ⟨by rw[HN.out],zM _ _⟩
 ·have h1':=h1 h0
  have h0':(0:Int)<t.size:=by omega
  clear h1
  go_wp2
  go_loop [8] (λi=>∃k:Nat,k<=t.size/\i=.int .i64 k/\Hid (∀j (hb:j<t.size),j<k->(t[j]'hb).toNat≠47)) (λi=>t.size-(zL i).toNat)
  case atStart=>exact⟨0,zR _,rfl,λj _ h=>by omega⟩
  case round=>
   clear h1'
   obtain⟨k,hk,rfl,hP⟩:=hrel
   by_cases hlt:k<t.size
   ·by_cases d1:(t[k]'hlt).toNat=47
    ·have e1:(((t[k]'hlt).toNat:Int)==47)=true:=by rw[d1];rfl
     have h9:=KF.out k hlt d1 hP.out
     have HN:=hid h9;clear d1 h9
     have hki:(k:Int)<=t.size:=by omega
     have hki1:(k:Int)+1<=t.size:=by omega
     have hk0:(0:Int)<=(k:Int)+1:=by omega
     have hwk:IntKind.i64.wrap ((k:Int)+1)=(k:Int)+1:=zI _ ⟨by omega,by omega⟩
     go_wp2
     (refine wp_region_quiet_lit (by kernel_rfl) (by kernel_rfl) (WQ.out ?_);(repeat(first|(apply WQ.read (by rfl);(focus(rintro W ⟨n,rfl⟩;go_simp;try with_reducible rfl));try simp only[zzQ])|(apply WQ.skip (by rfl);try simp only[zzQ])));refine WQ.nil ?_;rintro _ ⟨nq,rfl⟩)
     go_wp2
     refine bodyPost_ret (v:=.tuple #[.bool false,.string (t.extract 0 k),.string (t.extract (k+1) t.size),.bool true]) (by simp[results,Tryz.results51,go_sem]) rfl ⟨by rw[HN.out],zao (zM _ _) _⟩
    ·have e1:(((t[k]'hlt).toNat:Int)==47)=false:=by rw[beq_eq_false_iff_ne];omega
     have hnext:∀j (hb:j<t.size),j<k+1->(t[j]'hb).toNat≠47:=λj hb h=>by
      by_cases e:j=k
      ·subst e;exact d1
      ·exact hP.out j hb (by omega)
     have HN:=hid hnext;clear hnext d1
     go_wp2
     go_round
     case rel=>exact⟨k+1,by omega,by go_num,HN⟩
     case measure=>simp[zL];omega
   ·have h9:=KN.out λj hb=>hP.out j hb (by omega)
    have HN:=hid h9;clear h9
    go_wp2
    refine bodyPost_ret (v:=.tuple #[.bool false,.string t,.string ⟨#[]⟩,.bool false]) (by simp[results,Tryz.results51,go_sem]) rfl ⟨by rw[HN.out],zM _ _⟩
theorem zrv (b:List UInt8) (hl:b.length<=1000000) (w:zA):
 qJ 51 #[St (45::b)] w (zeg true b):=by
 obtain⟨t,ht⟩:∃t:ByteArray,t=⟨b.toArray⟩:=⟨_,rfl⟩
 obtain⟨b1,b2⟩:=zdd b t ht
 have kf:∀k (hk:k<t.size),(t[k]'hk).toNat=47->(∀j (hb:j<t.size),j<k->(t[j]'hb).toNat≠47)->zeg true b=.tuple #[.bool true,.string (t.extract 0 k),.string (t.extract (k+1) t.size),.bool true]:=λk hk h1 h2=>by
  have hk':k<b.length:=by omega
  obtain⟨e1,e2,e3⟩:=zmg b k hk' (λj hj hjk he=>h2 j (by omega) hjk (by rw[b2 j hj (by omega),he];rfl)) (UInt8.toNat_inj.1 (by rw[<-b2 k hk' hk,h1];rfl))
  unfold zeg
  rw[e1,e2,decide_eq_true e3,ht,zmf,zev]
 have kn:(∀j (hb:j<t.size),(t[j]'hb).toNat≠47)->zeg true b=.tuple #[.bool true,.string t,.string ⟨#[]⟩,.bool false]:=λh2=>by
  obtain⟨e1,e2,e3⟩:=zrt b (λj hj he=>h2 j (by omega) (by rw[b2 j hj (by omega),he];rfl))
  unfold zeg
  rw[e1,e2,decide_eq_false e3,ht]
 have KF:=hid kf;have KN:=hid kn
 clear kf kn
 obtain⟨s,hs⟩:∃s:ByteArray,s=⟨((45:UInt8)::b).toArray⟩:=⟨_,rfl⟩
 obtain⟨s1,s2,s3,s4,s5⟩:=zgu b s hs
 have h45:=s4 s2
 have hsl:(1:Int)<=s.size:=by omega
 have hs0:(0:Int)<s.size:=by omega
 rw[<-ht] at s5
 have hsz:t.size<=1000000:=by omega
 show zC _ _ #[.string ⟨((45:UInt8)::b).toArray⟩] _ _
 rw[<-hs]
 clear b1 b2 ht hl s1 s3 s4 hs
 generalize zeg true b=v at*
 go_enter Tryz.func51,Tryz.ntmps51
 go_wp2
 go_loop [8] (λi=>∃k:Nat,k<=t.size/\i=.int .i64 k/\Hid (∀j (hb:j<t.size),j<k->(t[j]'hb).toNat≠47)) (λi=>t.size-(zL i).toNat)
 case atStart=>exact⟨0,zR _,rfl,λj _ h=>by omega⟩
 case round=>
  clear h45 hsl hs0 s5
  obtain⟨k,hk,rfl,hP⟩:=hrel
  by_cases hlt:k<t.size
  ·by_cases d1:(t[k]'hlt).toNat=47
   ·have e1:(((t[k]'hlt).toNat:Int)==47)=true:=by rw[d1];rfl
    have h9:=KF.out k hlt d1 hP.out
    have HN:=hid h9;clear d1 h9
    have hki:(k:Int)<=t.size:=by omega
    have hki1:(k:Int)+1<=t.size:=by omega
    have hk0:(0:Int)<=(k:Int)+1:=by omega
    have hwk:IntKind.i64.wrap ((k:Int)+1)=(k:Int)+1:=zI _ ⟨by omega,by omega⟩
    go_wp2
    (refine wp_region_quiet_lit (by kernel_rfl) (by kernel_rfl) (WQ.out ?_);(repeat(first|(apply WQ.read (by rfl);(focus(rintro W ⟨n,rfl⟩;go_simp;try with_reducible rfl));try simp only[zzQ])|(apply WQ.skip (by rfl);try simp only[zzQ])));refine WQ.nil ?_;rintro _ ⟨nq,rfl⟩)
    go_wp2
    refine bodyPost_ret (v:=.tuple #[.bool true,.string (t.extract 0 k),.string (t.extract (k+1) t.size),.bool true]) (by simp[results,Tryz.results51,go_sem]) rfl ⟨by rw[HN.out],zao (zM _ _) _⟩
   ·have e1:(((t[k]'hlt).toNat:Int)==47)=false:=by rw[beq_eq_false_iff_ne];omega
    have hnext:∀j (hb:j<t.size),j<k+1->(t[j]'hb).toNat≠47:=λj hb h=>by
     by_cases e:j=k
     ·subst e;exact d1
     ·exact hP.out j hb (by omega)
    have HN:=hid hnext;clear hnext d1
    go_wp2
    go_round
    case rel=>exact⟨k+1,by omega,by go_num,HN⟩
    case measure=>simp[zL];omega
  ·have h9:=KN.out λj hb=>hP.out j hb (by omega)
   have HN:=hid h9;clear h9
   go_wp2
   refine bodyPost_ret (v:=.tuple #[.bool true,.string t,.string ⟨#[]⟩,.bool false]) (by simp[results,Tryz.results51,go_sem]) rfl ⟨by rw[HN.out],zM _ _⟩
theorem zn0 (l:List UInt8) (hl:l.length<=1000000) (w:zA):
 qJ 51 #[St l] w (.tuple #[.bool (decide (l.head? =some 45)),St (upS l),St (dnS l),.bool (decide ((47:UInt8)∈bare l))]):=by
 rcases zhb l with⟨h1,h2⟩|⟨h1,h2⟩
 ·rw[decide_eq_true h1]
  have:=zrv (bare l) (by have:=congrArg List.length h2;simp at this;omega) w
  rw[<-h2] at this
  exact this
 ·rw[decide_eq_false h1]
  have:=zru (bare l) (by rw[<-h2];exact h1) (by rw[<-h2];exact hl) w
  rw[<-h2] at this
  unfold upS dnS
  rw[<-h2]
  exact this
theorem ziz (n:Nat) (hl:(zD n).length<=300) (w:zA):
 zC zF 139 #[St (zD n)] w λe w'=>e=.returned (.int .i64 0)/\w'=w:=by
 obtain⟨s,hs⟩:∃s:ByteArray,s=⟨(zD n++[]).toArray⟩:=⟨_,rfl⟩
 obtain⟨b1,b2, -⟩:=zii (zd7 n) s hs
 have hzero:(zD n).length<=1\/∀hb:0<s.size,(s[0]'hb).toNat≠48:=zjz n [] s hs
 have hb2:∀k (hb:k<s.size),48<=(s[k]'hb).toNat/\(s[k]'hb).toNat<=57:=λk hb=>⟨(b2 k (by simp at b1;omega) hb).1,(b2 k (by simp at b1;omega) hb).2.1⟩
 have hpos:1<=(zD n).length:=by have:=zbn (n:Int);unfold digs at this;simpa using this
 rw[List.append_nil] at hs
 have hlen:(zD n).length=s.size:=by rw[b1];simp
 show zC _ _ #[.string ⟨(zD n).toArray⟩] _ _
 rw[hlen] at hl hzero hpos
 rw[<-hs]
 have B2:=hid hb2
 clear b1 b2 hb2 hs hlen
 have h0:0<s.size:=by omega
 have h0':(0:Int)<s.size:=by omega
 have hz:((0:Int)==s.size)=false:=by rw[beq_eq_false_iff_ne];omega
 have h45:(((s[0]'h0).toNat:Int)==45)=false:=by rw[beq_eq_false_iff_ne];have:=(B2.out 0 h0).1;omega
 have hf:(((s[0]'h0).toNat:Int)==48)=true/\¬(1:Int)<s.size\/(((s[0]'h0).toNat:Int)==48)=false:=by
  by_cases h:(s[0]'h0).toNat=48
  ·left
   refine⟨by rw[h];rfl,?_⟩
   rcases hzero with h1|h1
   ·omega
   ·exact absurd h (h1 h0)
  ·right;rw[beq_eq_false_iff_ne];omega
 have hwl:IntKind.i64.wrap ((s.size:Int)-0)=(s.size:Int):=by rw[Int.sub_zero];exact zI _ ⟨by omega,by omega⟩
 have hwl2:IntKind.i64.wrap (s.size:Int)=(s.size:Int):=zI _ ⟨by omega,by omega⟩
 have h300:¬(300:Int)<s.size:=by omega
 clear hzero
 go_enter Tryz.func139,Tryz.ntmps139
 rcases hf with⟨f1,f2⟩|f1
 all_goals (
 go_wp2
 go_loop [4] (λi=>∃k:Nat,k<=s.size/\i=.int .i64 k) (λi=>s.size-(zL i).toNat)
 case atStart=>exact⟨0,zR _,rfl⟩
 case round=>
  obtain⟨k,hk,rfl⟩:=hrel
  by_cases hlt:k<s.size
  ·obtain⟨c1,c2⟩:=B2.out k hlt
   have d1:(48:Int)<=(s[k].toNat:Int):=by omega
   have d2:(s[k].toNat:Int)<=57:=by omega
   go_wp2
   go_round
   case rel=>exact⟨k+1,by omega,by go_num⟩
   case measure=>simp[zL];omega
  ·go_wp2
   go_ret
   first|exact⟨rfl,rfl⟩|exact rfl|trivial)
theorem zg3 {l:List UInt8} (h:∀c∈l,48<=c.toNat/\c.toNat<=57) {k:Nat} (hk:k<=17):val (l.take k)<100000000000000000:=by
 have h1:=zjc (l.take k) (λc hc=>h c (List.mem_of_mem_take hc))
 have h2:(10:Nat)^(l.take k).length<=10^17:=Nat.pow_le_pow_right (by omega) (by simp;omega)
 exact Nat.lt_of_lt_of_le h1 h2
theorem zi0 (n:Nat) (hl:(zD n).length<=17) (w:zA):
 zC zF 140 #[St (zD n)] w λe w'=>e=.returned (.tuple #[I n,.bool true])/\w'=w:=by
 obtain⟨l,hll⟩:∃l,l=zD n:=⟨_,rfl⟩
 have hd:=zan n
 have hvn:=zb2 n
 have hpos:1<=(zD n).length:=by have:=zbn (n:Int);unfold digs at this;simpa using this
 rw[<-hll] at hd hvn hl hpos⊢
 obtain⟨s,hs⟩:∃s:ByteArray,s=⟨l.toArray⟩:=⟨_,rfl⟩
 obtain⟨b1,b2⟩:=zdd l s hs
 have hvt:=λk hk=>zg3 (l:=l) hd (k:=k) hk
 have hst:∀k (hb:k<s.size),48<=(s[k]'hb).toNat/\(s[k]'hb).toNat<=57/\val (l.take (k+1))=10*val (l.take k)+((s[k]'hb).toNat-48):=λk hb=>by
  have hk:k<l.length:=by omega
  rw[b2 k hk hb,List.take_succ_eq_append_getElem hk,zde]
  exact⟨(hd _ (zY hk)).1,(hd _ (zY hk)).2,rfl⟩
 have hfull:val (l.take s.size)=n:=by rw[b1,List.take_length];exact hvn
 show zC _ _ #[.string ⟨l.toArray⟩] _ _
 rw[<-hs]
 have hs17:s.size<=17:=by omega
 have hs0:0<s.size:=by omega
 generalize hvf:(λk=>val (l.take k))=vf at*
 have hvt':∀k,k<=17->vf k<100000000000000000:=by rw[<-hvf];exact hvt
 have hst':∀k (hb:k<s.size),48<=(s[k]'hb).toNat/\(s[k]'hb).toNat<=57/\vf (k+1)=10*vf k+((s[k]'hb).toNat-48):=by rw[<-hvf];exact hst
 have hfull':vf s.size=n:=by rw[<-hvf];exact hfull
 have hv0:vf 0=0:=by rw[<-hvf];rfl
 have VT:=hid hvt';have ST:=hid hst';have HF:=hid hfull';have V0:=hid hv0
 have h45:(((s[0]'hs0).toNat:Int)==45)=false:=by rw[beq_eq_false_iff_ne];have:=(hst' 0 hs0).1;omega
 clear hvt' hst' hfull' hv0 hvt hst hfull hvf b1 b2 hs hd hl hll hvn hpos
 go_enter Tryz.func140,Tryz.ntmps140
 go_wp2
 go_loop [4,5] (λa i=>∃k:Nat,k<=s.size/\i=.int .i64 k/\a=.int .i64 (vf k:Nat)) (λ_ i=>s.size-(zL i).toNat)
 case atStart=>exact⟨0,zR _,rfl,by rw[V0.out];rfl⟩
 case round=>
  obtain⟨k,hk,rfl,rfl⟩:=hrel
  by_cases hlt:k<s.size
  ·obtain⟨c1,c2,c3⟩:=ST.out k hlt
   have hv:=VT.out k (by omega)
   generalize vf k=v at*
   have C3:=hid c3;clear c3
   have d1:(48:Int)<=(s[k].toNat:Int):=by omega
   have d2:(s[k].toNat:Int)<=57:=by omega
   have d3:((s[k].toNat:Int) !=45)=true:=by simp;omega
   go_wp2
   go_round
   case rel=>exact⟨k+1,by omega,by go_num,by rw[C3.out];show Value.int .i64 _=Value.int .i64 _;congr 1;omega⟩
   case measure=>simp[zL];omega
  ·have hk':k=s.size:=by omega
   have HK:=hid hk';clear hk'
   go_wp2
   go_ret2
   exact⟨by rw[HK.out,HF.out];rfl,rfl⟩
theorem zxf (l:List UInt8):okS l↔zds (upS l)/\¬(l.head? =some 45/\upS l=[48])/\((47:UInt8)∉bare l\/(zds (dnS l)/\dnS l≠[48]/\dnS l≠[49]/\Nat.gcd (val (upS l)) (val (dnS l))=1)):=by
 unfold okS hasS
 constructor
 ·rintro⟨h1,h2,h3⟩
  refine⟨h1,h2,?_⟩
  by_cases h:(47:UInt8)∈bare l
  ·exact .inr (h3 h)
  ·exact .inl h
 ·rintro⟨h1,h2,h3⟩
  refine⟨h1,h2,λh=>?_⟩
  rcases h3 with h3|h3
  ·exact absurd h h3
  ·exact h3
theorem zgl (l:List UInt8) (s:ByteArray) (hs:s=⟨l.toArray⟩) (k:List UInt8):(s.toList==k)=decide (l=k):=by
 rw[hs,ByteArray.toList_eq]
 by_cases h:l=k
 ·subst h;simp
 ·rw[decide_eq_false h];simpa using h
theorem ztd (x u v:ByteArray) (m sl b1 b2 z1 z2 z3:Bool) (g:Nat) (Q:Prop) (hu:u.size<=300) (hv:v.size<=300)
 (HQ:Hid (Q↔b1=true/\¬(m=true/\z3=true)/\(sl=false\/(b2=true/\z1=false/\z2=false/\g=1))))
 (e1:(v.toList==[48])=z1) (e2:(v.toList==[49])=z2) (e3:(u.toList==[48])=z3)
 (SP:Hid (∀W:zA,qJ 51 #[.string x] W (.tuple #[.bool m,.string u,.string v,.bool sl])))
 (D1:Hid (∀W:zA,zC zF 52 #[.string u] W λe w'=>e=.returned (.bool b1)/\w'=W))
 (D2:Hid (∀W:zA,zC zF 52 #[.string v] W λe w'=>e=.returned (.bool b2)/\w'=W))
 (SG:Hid (b1=true->b2=true->u.size<=9->v.size<=9->∃n d:Nat,(∀W:zA,zC zF 54 #[.string u] W λe w'=>e=.returned (I n)/\w'=W)/\(∀W:zA,zC zF 54 #[.string v] W λe w'=>e=.returned (I d)/\w'=W)/\
   ∀W:zA,qJ 53 #[I n,I d] W (I g)))
 (BG:Hid (b1=true->b2=true->∃t:ByteArray,(t.toList==[49])=decide (g=1)/\qK 55 #[.string u,.string v] (.tuple #[.string t,.int .i64 0])))
 (w:zA) (HW:Hid (Wd w)):
 zC zF 18 #[.string x] w λe w'=>∃r:Int,e=.returned (.int .i64 r)/\(r=0↔Q)/\Below w.heap.size w w':=by
 have u300:¬(300:Int)<u.size:=by omega
 have v300:¬(300:Int)<v.size:=by omega
 go_enter Tryz.func18,Tryz.ntmps18
 go_wp2_with fail
 refine(SP.out w).mono ?_
 rintro e w1 ⟨rfl,hB⟩
 go_wp2_with fail
 refine(D1.out w1).mono ?_
 rintro e w2 ⟨rfl,hw⟩
 have hw2:=hw.symm;subst hw2;clear hw
 cases b1
 ·have HN:=hid (by rw[HQ.out];simp:¬Q)
  go_wp2_with fail
  all_goals first|exact(zzU ‹_›).elim|skip
  go_ret
  exact⟨11,rfl,⟨λh=>by simp at h,λh=>absurd h HN.out⟩,hB⟩
 ·cases sl
  ·cases m
   ·have HN:=hid (by rw[HQ.out];simp:Q)
    go_wp2_with fail
    all_goals first|exact(zzU ‹_›).elim|skip
    go_ret
    exact⟨0,rfl,⟨λ_=>HN.out,λ_=>rfl⟩,hB⟩
   ·cases z3
    ·have HN:=hid (by rw[HQ.out];simp:Q)
     go_wp2_with fail
     all_goals first|exact(zzU ‹_›).elim|skip
     go_ret
     exact⟨0,rfl,⟨λ_=>HN.out,λ_=>rfl⟩,hB⟩
    ·have HN:=hid (by rw[HQ.out];simp:¬Q)
     go_wp2_with fail
     all_goals first|exact(zzU ‹_›).elim|skip
     go_ret
     exact⟨11,rfl,⟨λh=>by simp at h,λh=>absurd h HN.out⟩,hB⟩
  ·go_wp2_with fail
   all_goals first|exact(zzU ‹_›).elim|skip
   refine(D2.out _).mono ?_
   rintro e w2 ⟨rfl,hw⟩
   have hw2:=hw.symm;subst hw2;clear hw
   cases b2
   ·have HN:=hid (by rw[HQ.out];simp:¬Q)
    go_wp2_with fail
    all_goals first|exact(zzU ‹_›).elim|skip
    go_ret
    exact⟨11,rfl,⟨λh=>by simp at h,λh=>absurd h HN.out⟩,hB⟩
   ·cases z1
    ·cases z2
     ·cases m
      ·by_cases h9:u.size<=9
       ·by_cases k9:v.size<=9
        ·have hu9:(u.size:Int)<=9:=by omega
         have hv9:(v.size:Int)<=9:=by omega
         obtain⟨n,d,s1,s2,s3⟩:=SG.out (by simp) (by simp) (by omega) (by omega)
         have S1:=hid s1;have S2:=hid s2;have S3:=hid s3;clear s1 s2 s3
         go_wp2_with fail
         all_goals first|exact(zzU ‹_›).elim|skip
         refine(S1.out _).mono ?_
         rintro e w2 ⟨rfl,hw⟩
         have hw2:=hw.symm;subst hw2;clear hw
         go_wp2_with fail
         refine(S2.out _).mono ?_
         rintro e w2 ⟨rfl,hw⟩
         have hw2:=hw.symm;subst hw2;clear hw
         go_wp2_with fail
         refine(S3.out _).mono ?_
         rintro e w2 ⟨rfl,hb2⟩
         have hB:=hB.trans (hb2.mono hB.size)
         clear hb2
         by_cases hg:g=1
         ·have HN:=hid (by rw[HQ.out];simp[hg]:Q)
          have hgb:((g:Int) !=1)=false:=by subst hg;rfl
          clear hg
          go_wp2_with fail
          go_ret
          exact⟨0,rfl,⟨λ_=>HN.out,λ_=>rfl⟩,hB⟩
         ·have HN:=hid (by rw[HQ.out];simp[hg]:¬Q)
          have hgb:((g:Int) !=1)=true:=by simp;omega
          clear hg
          go_wp2_with fail
          go_ret
          exact⟨11,rfl,⟨λh=>by simp at h,λh=>absurd h HN.out⟩,hB⟩
        ·have hu9:(u.size:Int)<=9:=by omega
         have hv9:¬(v.size:Int)<=9:=by omega
         obtain⟨t,t1,t2⟩:=BG.out (by simp) (by simp)
         have T2:=hid (t2 w1 (HW.out.below hB));clear t2
         go_wp2_with fail
         all_goals first|exact(zzU ‹_›).elim|skip
         refine T2.out.mono ?_
         rintro e w2 ⟨rfl,hb2⟩
         have hB:=hB.trans (hb2.mono hB.size)
         clear hb2 T2
         by_cases hg:g=1
         ·have HN:=hid (by rw[HQ.out];simp[hg]:Q)
          rw[decide_eq_true hg] at t1
          clear hg
          go_wp2_with fail
          go_ret
          exact⟨0,rfl,⟨λ_=>HN.out,λ_=>rfl⟩,hB⟩
         ·have HN:=hid (by rw[HQ.out];simp[hg]:¬Q)
          rw[decide_eq_false hg] at t1
          clear hg
          go_wp2_with fail
          go_ret
          exact⟨11,rfl,⟨λh=>by simp at h,λh=>absurd h HN.out⟩,hB⟩
       ·have hu9:¬(u.size:Int)<=9:=by omega
        obtain⟨t,t1,t2⟩:=BG.out (by simp) (by simp)
        have T2:=hid (t2 w1 (HW.out.below hB));clear t2
        go_wp2_with fail
        all_goals first|exact(zzU ‹_›).elim|skip
        refine T2.out.mono ?_
        rintro e w2 ⟨rfl,hb2⟩
        have hB:=hB.trans (hb2.mono hB.size)
        clear hb2 T2
        by_cases hg:g=1
        ·have HN:=hid (by rw[HQ.out];simp[hg]:Q)
         rw[decide_eq_true hg] at t1
         clear hg
         go_wp2_with fail
         go_ret
         exact⟨0,rfl,⟨λ_=>HN.out,λ_=>rfl⟩,hB⟩
        ·have HN:=hid (by rw[HQ.out];simp[hg]:¬Q)
         rw[decide_eq_false hg] at t1
         clear hg
         go_wp2_with fail
         go_ret
         exact⟨11,rfl,⟨λh=>by simp at h,λh=>absurd h HN.out⟩,hB⟩
      ·cases z3
       ·by_cases h9:u.size<=9
        ·by_cases k9:v.size<=9
         ·have hu9:(u.size:Int)<=9:=by omega
          have hv9:(v.size:Int)<=9:=by omega
          obtain⟨n,d,s1,s2,s3⟩:=SG.out (by simp) (by simp) (by omega) (by omega)
          have S1:=hid s1;have S2:=hid s2;have S3:=hid s3;clear s1 s2 s3
          go_wp2_with fail
          all_goals first|exact(zzU ‹_›).elim|skip
          refine(S1.out _).mono ?_
          rintro e w2 ⟨rfl,hw⟩
          have hw2:=hw.symm;subst hw2;clear hw
          go_wp2_with fail
          refine(S2.out _).mono ?_
          rintro e w2 ⟨rfl,hw⟩
          have hw2:=hw.symm;subst hw2;clear hw
          go_wp2_with fail
          refine(S3.out _).mono ?_
          rintro e w2 ⟨rfl,hb2⟩
          have hB:=hB.trans (hb2.mono hB.size)
          clear hb2
          by_cases hg:g=1
          ·have HN:=hid (by rw[HQ.out];simp[hg]:Q)
           have hgb:((g:Int) !=1)=false:=by subst hg;rfl
           clear hg
           go_wp2_with fail
           go_ret
           exact⟨0,rfl,⟨λ_=>HN.out,λ_=>rfl⟩,hB⟩
          ·have HN:=hid (by rw[HQ.out];simp[hg]:¬Q)
           have hgb:((g:Int) !=1)=true:=by simp;omega
           clear hg
           go_wp2_with fail
           go_ret
           exact⟨11,rfl,⟨λh=>by simp at h,λh=>absurd h HN.out⟩,hB⟩
         ·have hu9:(u.size:Int)<=9:=by omega
          have hv9:¬(v.size:Int)<=9:=by omega
          obtain⟨t,t1,t2⟩:=BG.out (by simp) (by simp)
          have T2:=hid (t2 w1 (HW.out.below hB));clear t2
          go_wp2_with fail
          all_goals first|exact(zzU ‹_›).elim|skip
          refine T2.out.mono ?_
          rintro e w2 ⟨rfl,hb2⟩
          have hB:=hB.trans (hb2.mono hB.size)
          clear hb2 T2
          by_cases hg:g=1
          ·have HN:=hid (by rw[HQ.out];simp[hg]:Q)
           rw[decide_eq_true hg] at t1
           clear hg
           go_wp2_with fail
           go_ret
           exact⟨0,rfl,⟨λ_=>HN.out,λ_=>rfl⟩,hB⟩
          ·have HN:=hid (by rw[HQ.out];simp[hg]:¬Q)
           rw[decide_eq_false hg] at t1
           clear hg
           go_wp2_with fail
           go_ret
           exact⟨11,rfl,⟨λh=>by simp at h,λh=>absurd h HN.out⟩,hB⟩
        ·have hu9:¬(u.size:Int)<=9:=by omega
         obtain⟨t,t1,t2⟩:=BG.out (by simp) (by simp)
         have T2:=hid (t2 w1 (HW.out.below hB));clear t2
         go_wp2_with fail
         all_goals first|exact(zzU ‹_›).elim|skip
         refine T2.out.mono ?_
         rintro e w2 ⟨rfl,hb2⟩
         have hB:=hB.trans (hb2.mono hB.size)
         clear hb2 T2
         by_cases hg:g=1
         ·have HN:=hid (by rw[HQ.out];simp[hg]:Q)
          rw[decide_eq_true hg] at t1
          clear hg
          go_wp2_with fail
          go_ret
          exact⟨0,rfl,⟨λ_=>HN.out,λ_=>rfl⟩,hB⟩
         ·have HN:=hid (by rw[HQ.out];simp[hg]:¬Q)
          rw[decide_eq_false hg] at t1
          clear hg
          go_wp2_with fail
          go_ret
          exact⟨11,rfl,⟨λh=>by simp at h,λh=>absurd h HN.out⟩,hB⟩
       ·have HN:=hid (by rw[HQ.out];simp:¬Q)
        go_wp2_with fail
        all_goals first|exact(zzU ‹_›).elim|skip
        go_ret
        exact⟨11,rfl,⟨λh=>by simp at h,λh=>absurd h HN.out⟩,hB⟩
     ·have HN:=hid (by rw[HQ.out];simp:¬Q)
      go_wp2_with fail
      all_goals first|exact(zzU ‹_›).elim|skip
      go_ret
      exact⟨11,rfl,⟨λh=>by simp at h,λh=>absurd h HN.out⟩,hB⟩
    ·have HN:=hid (by rw[HQ.out];simp:¬Q)
     go_wp2_with fail
     all_goals first|exact(zzU ‹_›).elim|skip
     go_ret
     exact⟨11,rfl,⟨λh=>by simp at h,λh=>absurd h HN.out⟩,hB⟩
theorem z15 (g:Nat):zD g=[49]↔g=1:=by
 have e:zD 1=[49]:=by rw[zae (by omega)];rfl
 constructor
 ·intro h;exact zfk (h.trans e.symm)
 ·rintro rfl;exact e
end Go.Proofs.YtccijmidbdapaaaGreatDoor
namespace Go.Proofs.YtccijmidbdapaaaGreatDoor
open Go.RowKit Go.Shelf Lib Str Limb Geo
attribute [local go_sem] Oper.semAt_some
def BoolP (w:zA) (G:Prop) (e:Ending) (w':zA):Prop:=∃b:Bool,e=.returned (.bool b)/\(b=false↔G)/\Below w.heap.size w w'
theorem BoolP.no {w w':zA} {G:Prop} (h:¬G) (hb:qL w w'):BoolP w G (.returned (.bool true)) w':=⟨true,rfl,⟨λk=>by simp at k,λk=>absurd k h⟩,hb⟩
theorem BoolP.yes {w w':zA} {G:Prop} (h:G) (hb:qL w w'):BoolP w G (.returned (.bool false)) w':=⟨false,rfl,⟨λ_=>h,λ_=>rfl⟩,hb⟩
def IdxP (w:zA) (n:Nat) (G:Nat->Prop) (e:Ending) (w':zA):Prop:=∃k:Int,e=.returned (.int .i64 k)/\((k= -1/\∀i,i<n->G i)\/(0<=k/\∃i,i<n/\¬G i))/\Below w.heap.size w w'
theorem IdxP.hit {w w':zA} {n:Nat} {G:Nat->Prop} {k:Nat} (hk:k<n) (h:¬G k) (hb:qL w w'):IdxP w n G (.returned (.int .i64 (k:Int))) w':=⟨k,rfl,.inr ⟨by omega,k,hk,h⟩,hb⟩
theorem IdxP.none {w w':zA} {n:Nat} {G:Nat->Prop} (h:∀i,i<n->G i) (hb:qL w w'):IdxP w n G (.returned (.int .i64 (-1))) w':=⟨-1,rfl,.inl ⟨rfl,h⟩,hb⟩
def YesP (w:zA) (G:Prop) (e:Ending) (w':zA):Prop:=∃b:Bool,e=.returned (.bool b)/\(b=true↔G)/\Below w.heap.size w w'
theorem YesP.no {w w':zA} {G:Prop} (h:¬G) (hb:qL w w'):YesP w G (.returned (.bool false)) w':=⟨false,rfl,⟨λk=>by simp at k,λk=>absurd k h⟩,hb⟩
theorem YesP.yes {w w':zA} {G:Prop} (h:G) (hb:qL w w'):YesP w G (.returned (.bool true)) w':=⟨true,rfl,⟨λ_=>h,λ_=>rfl⟩,hb⟩
end Go.Proofs.YtccijmidbdapaaaGreatDoor
namespace Go.Proofs.YtccijmidbdapaaaGreatDoor.Geo
theorem zt2 {a b:Rat} (ha:0<a) (hb:0<b):0<a*b:=Rat.mul_pos ha hb
theorem zt3 {a b:Rat} (ha:0<a) (hb:b<0):a*b<0:=by
 have:=Rat.mul_pos ha (show 0< -b by grind);grind
theorem zth {a b:Rat} (ha:a<0) (hb:0<b):a*b<0:=by
 have:=Rat.mul_pos (show 0< -a by grind) hb;grind
theorem zuc {a b:Rat} (ha:a<0) (hb:b<0):0<a*b:=by
 have:=Rat.mul_pos (show 0< -a by grind) (show 0< -b by grind);grind
theorem ztj (a b:Rat):cmpR (a*b) 0=cmpR a 0*cmpR b 0:=by
 rcases zaw a 0 with⟨h1,e1⟩|⟨h1,e1⟩|⟨h1,e1⟩<;>rcases zaw b 0 with⟨h2,e2⟩|⟨h2,e2⟩|⟨h2,e2⟩<;>rw[e1,e2]
 ·have:=zuc h1 h2;have:=zaw (a*b) 0;grind
 ·subst h2;rw[Rat.mul_zero,zjn];rfl
 ·have:=zth h1 h2;have:=zaw (a*b) 0;grind
 ·subst h1;rw[Rat.zero_mul,zjn];rfl
 ·subst h1;rw[Rat.zero_mul,zjn];rfl
 ·subst h1;rw[Rat.zero_mul,zjn];rfl
 ·have:=zt3 h1 h2;have:=zaw (a*b) 0;grind
 ·subst h2;rw[Rat.mul_zero,zjn];rfl
 ·have:=zt2 h1 h2;have:=zaw (a*b) 0;grind
def onR (a b p:Pt):Prop:=cmpR p.x a.x*cmpR p.x b.x<=0/\cmpR p.y a.y*cmpR p.y b.y<=0
instance (a b p:Pt):Decidable (onR a b p):=by unfold onR;infer_instance
def cr (a b c:Pt):Rat:=(b.x-a.x)*(c.y-a.y)-(b.y-a.y)*(c.x-a.x)
def le (p q:Pt):Prop:=ordP p q<=0
theorem le_trans {p q r:Pt} (h:le p q) (k:le q r):le p r:=by unfold le at*;have:=zas p q;have:=zas q r;have:=zas p r;grind
theorem le_antisymm {p q:Pt} (h:le p q) (k:le q p):p=q:=by unfold le at*;have:=zas p q;have:=zas q p;grind
end Go.Proofs.YtccijmidbdapaaaGreatDoor.Geo
namespace Go.Proofs.YtccijmidbdapaaaGreatDoor.Geo
end Go.Proofs.YtccijmidbdapaaaGreatDoor.Geo
namespace Go.Proofs.YtccijmidbdapaaaGreatDoor.Geo
end Go.Proofs.YtccijmidbdapaaaGreatDoor.Geo
namespace Go.Proofs.YtccijmidbdapaaaGreatDoor
open Go.RowKit Go.Shelf Lib Str Limb Geo
end Go.Proofs.YtccijmidbdapaaaGreatDoor
namespace Go.Proofs.YtccijmidbdapaaaGreatDoor
open Go.RowKit Go.Shelf Lib Str Limb Geo
attribute [local go_sem] Oper.semAt_some
end Go.Proofs.YtccijmidbdapaaaGreatDoor
namespace Go.Proofs.YtccijmidbdapaaaGreatDoor
open Go.RowKit Go.Shelf Lib Str Limb
attribute [local go_sem] Oper.semAt_some
abbrev BolQ (w:zA) (b:Bool) (e:Ending) (w':zA):Prop:=e=.returned (.bool b)/\Below w.heap.size w w'
theorem z6w (x y r:ByteArray) (is:Bool) (A:Nat) (xx:ByteArray)
 (RT:Hid (qK 87 #[.string xx,.string y] (.tuple #[.string r,.bool is,.int .i64 0])))
 (w:zA) (HW:Hid (Wd w)) (HA:Hid (w.cell? ⟨A,1,none⟩=some (.string xx))):
 zC zF 86 #[.agg #[.string x,.string y],.pointer (some ⟨A,0,none⟩)] w (BolQ w is):=by
 obtain⟨W0,hW0⟩:∃W0,W0=w.alloc (.cells #[.string x,.string y] 58):=⟨_,rfl⟩
 have K0:=hid (show BxT w x y W0 by rw[hW0];exact BxT.start w x y)
 obtain⟨c0,c1⟩:=K0.out.cx
 have a1:=(zac (show qL w W0 from K0.out.bel)).cell HA.out
 rw[hW0] at c0 c1 a1
 have H9:=hid hW0.symm
 clear hW0
 go_enter Tryz.func86,Tryz.ntmps86
 go_wp2_with fail
 rw[H9.out]
 clear c0 c1 a1 H9
 refine(RT.out W0 (HW.out.below K0.out.bel)).mono ?_
 rintro e w1 ⟨rfl,hb1⟩
 have K1:=hid (K0.out.next hb1);clear hb1 K0 RT
 cases is
 ·go_wp2_with fail
  all_goals
   go_ret
   exact⟨rfl,K1.out.bel⟩
 ·go_wp2_with fail
  all_goals
   go_ret
   exact⟨rfl,K1.out.bel⟩
def RowTm (p:Option Addr) (n:Nat) (X Y:Nat->ByteArray) (W:zA):Prop:=∀i,i<n->∃b off,p=some ⟨b,off,none⟩/\W.cell? ⟨b,off+i*2,none⟩=some (.string (X i))/\W.cell? ⟨b,off+i*2+1,none⟩=some (.string (Y i))
theorem RowTm.keep {p:Option Addr} {n:Nat} {X Y:Nat->ByteArray} {W W':zA} (h:RowTm p n X Y W) (hc:CellsKept W W'):RowTm p n X Y W':=λi hi=>let ⟨b,off,e,h1,h2⟩:=h i hi;⟨b,off,e,hc.cell h1,hc.cell h2⟩
theorem z7r (p:Option Addr) (cap n:Nat) (X Y:Nat->ByteArray) (hl:n<=5000) (A:Nat) (C:zA->Prop) (hC:∀W W',C W->qL W W'->C W')
 (F:Hid (∀i,i<n->∀W:zA,Wd W->C W->zC zF 86 #[.agg #[.string (X i),.string (Y i)],.pointer (some ⟨A,0,none⟩)] W (BolQ W false)))
 (w:zA) (HW:Hid (Wd w)) (HC:Hid (C w)) (HP:Hid (RowTm p n X Y w)):
 qJ 133 #[.slice p n cap,.func (.func 86) #[] #[.pointer (some ⟨A,0,none⟩)]] w (.int .i64 (-1)):=by
 have HCC:=hid hC;clear hC
 go_enter Tryz.func133,Tryz.ntmps133
 go_wp2
 go_loopw [8] (λi wr=>∃(k:Nat),k<=n/\i=.int .i64 (k:Int)/\Hid (qL w wr))
  (λi _=>n-(zL i).toNat)
 case atStart=>exact⟨0,zR _,rfl,zM _ _⟩
 case round=>
  obtain⟨k,hk,rfl,hB⟩:=hrel
  by_cases hlt:k<n
  ·obtain⟨b,off,rfl,c0,c1⟩:=(HP.out.keep (zac hB.out)) k hlt
   have HF:=hid (F.out k hlt wr (HW.out.below hB.out) (HCC.out _ _ HC.out hB.out))
   generalize X k=x at*
   generalize Y k=y at*
   go_wp2_with fail
   refine HF.out.mono ?_
   rintro e w2 ⟨rfl,hb2⟩
   have hB2:=hid (hB.out.trans (hb2.mono hB.out.size))
   clear hb2 HF
   go_wp2_with fail
   go_roundw
   case rel=>exact⟨k+1,by omega,by go_num,hB2⟩
   case measure=>simp[zL];omega
  ·have hkn:k=n:=by omega
   go_wp2_with fail
   go_ret
   exact⟨rfl,hB.out⟩
theorem z7s (p:Option Addr) (cap n A:Nat) (w:zA)
 (F:Hid (qJ 133 #[.slice p n cap,.func (.func 86) #[] #[.pointer (some ⟨A,0,none⟩)]] w (.int .i64 (-1)))):
 zC zF 85 #[.slice p n cap,.func (.func 86) #[] #[.pointer (some ⟨A,0,none⟩)]] w (BolQ w false):=by
 go_enter Tryz.func85,Tryz.ntmps85
 go_wp2_with fail
 refine F.out.mono ?_
 rintro e w1 ⟨rfl,hB⟩
 go_wp2_with fail
 go_ret
 exact⟨rfl,hB⟩
structure BxA (w:zA) (A:Nat) (x y:ByteArray) (W:zA):Prop where
 bel:qL w W
 bx:W.heap[A]? =some (.cells #[.string x,.string y] 58 (0,0))
section
variable {w W W':zA} {A:Nat} {x y:ByteArray}
theorem BxA.next (h:BxA w A x y W) (hb:qL W W'):BxA w A x y W':=
 ⟨h.bel.trans (hb.mono h.bel.size),(hb.block _ (Array.getElem?_eq_some_iff.1 h.bx).1).trans h.bx⟩
theorem BxA.cx (h:BxA w A x y W):W.cell? ⟨A,0,none⟩=some (.string x)/\W.cell? ⟨A,1,none⟩=some (.string y):=by have:=h.bx;simp[World.cell?,this]
end
theorem z2l (p:Option Addr) (cap n:Nat) (X Y:Nat->ByteArray) (hn:n<=16) (hcap:n<=cap)
 (RG:Hid (∀i,i<n->∀W:zA,Wd W->Pw W->qJ 84 #[.agg #[.string (X i),.string (Y i)]] W (.int .i64 0)))
 (CM:Hid (∀i,i+1<n->qK 9 #[.string (Y i),.string (Y (i+1))] (.tuple #[.int .i64 (-1),.int .i64 0])))
 (CT:Hid (∀k A,k<n->∀W:zA,Wd W->RowTm p n X Y W->W.cell? ⟨A,1,none⟩=some (.string (Y k))->zC zF 85 #[.slice p k cap,.func (.func 86) #[] #[.pointer (some ⟨A,0,none⟩)]] W (BolQ W false)))
 (w:zA) (HW:Hid (Wd w)) (HQ:Hid (Pw w)) (HP:Hid (RowTm p n X Y w)):
 qJ 40 #[.slice p n cap] w (.int .i64 0):=by
 have hn16:decide ((16:Int)<(n:Int))=false:=decide_eq_false (by omega)
 go_enter Tryz.func40,Tryz.ntmps40
 go_wp2_with fail
 clear hn16
 go_loopw [13] (λi wr=>∃(k:Nat),k<=n/\i=.int .i64 (k:Int)/\Hid (qL w wr))
  (λi _=>n-(zL i).toNat)
 case atStart=>exact⟨0,zR _,rfl,zM _ _⟩
 case round=>
  obtain⟨k,hk,rfl,hB⟩:=hrel
  by_cases hlt:k<n
  ·have HR:=hid λW (h:qL w W)=>HP.out.keep (zac h)
   obtain⟨b,off,hp,c0,c1⟩:=HR.out wr hB.out k hlt
   subst hp
   have HRG:=hid (RG.out k hlt)
   have HCT:=hid λA W hW hr hc=>CT.out k A hlt W hW hr hc
   have HY:=hid (show ∀j,j+1=k->(qK 9 #[.string (Y j),.string (Y k)] (.tuple #[.int .i64 (-1),.int .i64 0])) from λj hj=>by subst hj;exact CM.out j hlt)
   obtain⟨j,hj⟩:∃j,j=k-1:=⟨_,rfl⟩
   have HJ:=hid hj
   obtain⟨x,hx⟩:∃x,x=X k:=⟨_,rfl⟩
   obtain⟨y,hy⟩:∃y,y=Y k:=⟨_,rfl⟩
   rw[<-hx,<-hy] at HRG
   rw[<-hy] at HCT HY
   rw[<-hx] at c0
   rw[<-hy] at c1
   clear hj hx hy
   have HS:Hid (BxA w wr.heap.size x y (wr.alloc (.cells #[.string x,.string y] 58))):=hid (by
    have hal:qL wr (wr.alloc (.cells #[.string x,.string y] 58)):=(zM _ wr).alloc (Nat.le_refl _) _
    exact⟨hB.out.trans (hal.mono hB.out.size),World.alloc_heap_new _ _⟩)
   obtain⟨g0,g1⟩:=HS.out.cx
   go_wp2_with fail
   clear hB c0 c1 g0 g1
   obtain⟨W1,hW1⟩:∃W1,W1=wr.alloc (.cells #[.string x,.string y] 58):=⟨_,rfl⟩
   rw[<-hW1] at HS⊢
   clear hW1
   generalize wr.heap.size=A at*
   refine(HRG.out W1 (HW.out.below HS.out.bel) (HQ.out.below HS.out.bel)).mono ?_
   rintro e w2 ⟨rfl,hb2⟩
   have HS2:=hid (HS.out.next hb2)
   clear hb2 HS HRG
   by_cases hk0:k=0
   ·have hkb:((k:Int)==0)=true:=by rw[hk0];rfl
    clear hk0
    go_wp2_with fail
    go_roundw
    case rel=>exact⟨k+1,by omega,by go_num,hid HS2.out.bel⟩
    case measure=>simp[zL];omega
   ·have hkb:((k:Int)==0)=false:=beq_eq_false_iff_ne.2 (by omega)
    have hjk:j+1=k:=by have:=HJ.out;omega
    have HCM:=hid (HY.out j hjk)
    have hw1:IntKind.i64.wrap ((k:Int)-1)=(j:Int):=by rw[zI _ ⟨by omega,by omega⟩];omega
    have hjn:j<n:=by omega
    have hkc:(k:Int)<=(cap:Int):=by omega
    have HRj:=hid (λW h=>(by
     obtain⟨b',off',e,d0,d1⟩:=HR.out W h j hjn
     obtain⟨rfl,rfl⟩:b=b'/\off=off':=by simpa using e
     exact d1):∀W,qL w W->W.cell? ⟨b,off+j*2+1,none⟩=some (.string (Y j)))
    generalize Y j=yj at*
    clear HY hjk hk0
    go_wp2_with fail
    refine zbl (λ_ W=>BxA w A x y W) (by kernel_rfl) (by kernel_rfl) (HS2.out.next (zM _ _).drew) ?_
    refine qR (.slice (some ⟨b,off,none⟩) n cap) ?_;simp only[zzQ]
    refine qR (.int .i64 (k:Int)) ?_;simp only[zzQ]
    refine qR (.int .i64 (j:Int)) ?_;simp only[zzQ]
    refine qR (.pointer (some ⟨b,off+j*2,none⟩)) ?_;simp only[zzQ]
    refine qR (.pointer (some ⟨b,off+j*2+1,none⟩)) ?_;simp only[zzQ]
    refine qR (.string yj) ?_ (hy:=λf W' hf h=>by have c0:=HRj.out _ h.bel;go_simp);simp only[zzQ]
    refine qR (.pointer (some ⟨A,1,none⟩)) ?_;simp only[zzQ]
    refine qR (.string y) ?_ (hy:=λf W' hf h=>by obtain⟨c0,c1⟩:=h.cx;go_simp);simp only[zzQ]
    refine zar (.tuple #[.int .i64 (-1),.int .i64 0]) (by rfl) (λf W' hf h C' hC'=>by
     go_simp
     refine(HCM.out _ (HW.out.below h.bel)).mono ?_
     rintro e w' ⟨rfl,hb⟩
     exact⟨rfl,hC' _ (h.next hb)⟩) ?_
    try simp only[zzQ]
    refine qR (.tuple #[.int .i64 (-1),.int .i64 0]) ?_;simp only[zzQ]
    refine qR (.int .i64 (-1)) ?_;simp only[zzQ]
    refine qR (.int .i64 0) ?_;simp only[zzQ]
    refine qR (.int .i64 (-1)) ?_;simp only[zzQ]
    refine qR (.int .i64 0) ?_;simp only[zzQ]
    refine zck λf W5 hf h5=>?_
    have HS5:=hid h5
    clear hf h5 HS2 HCM HRj
    have HCC:=hid (HCT.out A W5 (HW.out.below HS5.out.bel) (HR.out _ HS5.out.bel) HS5.out.cx.2)
    clear HCT
    go_wp2_with fail
    refine HCC.out.mono ?_
    rintro e w6 ⟨rfl,hb6⟩
    have HS6:=hid (HS5.out.next hb6)
    clear hb6 HS5 HCC
    go_wp2_with fail
    go_roundw
    case rel=>exact⟨k+1,by omega,by go_num,hid HS6.out.bel⟩
    case measure=>simp[zL];omega
  ·have hkn:k=n:=by omega
   go_wp2_with fail
   go_ret
   exact⟨rfl,hB.out⟩
end Go.Proofs.YtccijmidbdapaaaGreatDoor
namespace Go.Proofs.YtccijmidbdapaaaGreatDoor
open Go.RowKit Go.Shelf Lib Str Limb Geo
attribute [local go_sem] Oper.semAt_some
structure NrmR (r:Nat):Prop where
 pos:0<r
 len:(zD r).length<=16
 nc:zn7 r=(1,r)
structure TrmR (c:Rat) (r:Nat):Prop where
 ne:c≠0
 sc:sz c 60
 nr:NrmR r
theorem z8b (c:Rat) (r:Nat) (h:TrmR c r) (w:zA) (hw:Wd w) (hp:Pw w):
 qJ 84 #[.agg #[St (numS c),St (zD r)]] w (.int .i64 0):=by
 have okc:=zd0 (by omega) (by omega) h.sc
 have lr:=h.nr.len
 have sr:sz (r:Rat) 16:=zrg (by omega) lr
 have okr:=zd0 (by omega) (by omega) sr
 have dc:=zok (k:=60) (by omega) h.sc
 have d1:zD 1=[49]:=by rw[zae (by omega)];rfl
 refine z6v ⟨(numS c).toArray⟩ ⟨(zD r).toArray⟩ _ (max ((zD r).length:Int) (([49]:List UInt8).length:Int)) ?_ ?_ ?_ (hid λW hW=>zfj c okc W hW) (hid λW hW=>?_) (hid λW hW=>znp c okc W hW) (hid λW hW=>?_) (hid ?_) w (hid hw) (hid hp)
 ·rw[ByteArray.toList_eq,beq_eq_false_iff_ne]
  exact λe=>h.ne ((zpy c).1 (by simpa using e))
 ·have:=dc.1;have:=dc.2
  rw[zd9]
  omega
 ·show ¬(40:Int)<max ((zD r).length:Int) 1
  omega
 ·have:=zfj (r:Rat) okr W hW
  rw[zhe] at this;exact this
 ·have:=znp (r:Rat) okr W hW
  rw[zhe,show(r:Rat).num=(r:Int) from rfl,show(r:Rat).den=1 from rfl,zd9,zd9,d1] at this
  exact this
 ·by_cases h1:r=1
  ·left
   rw[h1,ByteArray.toList_eq,d1];rfl
  ·right
   refine⟨zhl (n:=r) rfl 1 (by omega) h1,zhl (n:=r) rfl 0 (by omega) (by have:=h.nr.pos;omega),λW _=>?_,λW _=>?_,λW hW hP=>?_⟩
   ·have:=Tryz.strings_HasPrefix ⟨(zD r).toArray⟩ ⟨#[45]⟩ W
    have e:Lib.hasPrefix (zD r) [45]=false:=by
     have:=zdx (r:Int)
     rw[Str.zad] at this
     rw[this,decide_eq_false (by omega)]
    rw[show(⟨(zD r).toArray⟩:ByteArray).data.toList=zD r from rfl,show(⟨#[45]⟩:ByteArray).data.toList=[45] from rfl,e] at this
    refine this.mono ?_
    rintro e w' ⟨rfl,rfl⟩
    exact⟨rfl,zM _ _⟩
   ·have:=Tryz.strings_Contains_one ⟨(zD r).toArray⟩ 47 W
    have e:decide (0<=Lib.indexByte (zD r) 47)=false:=by
     rw[<-Lib.contains_iff_indexByte]
     rw[Bool.eq_false_iff]
     intro k
     have hm:=List.contains_iff_mem.1 k
     have:=(zan r 47 hm).1
     exact absurd this (by decide)
    rw[show(⟨(zD r).toArray⟩:ByteArray).data.toList=zD r from rfl,e] at this
    refine this.mono ?_
    rintro e w' ⟨rfl,rfl⟩
    exact⟨rfl,zM _ _⟩
   ·have:=z4c r h.nr.pos lr W hW hP
    rw[h.nr.nc,d1] at this
    exact this
def z5c (p q:Rat):Bool:=decide (isq (p/q).num.natAbs*isq (p/q).num.natAbs=(p/q).num.natAbs)&&decide (isq (p/q).den*isq (p/q).den=(p/q).den)
structure SurdR (n:Nat) (c:Nat->Rat) (r:Nat->Nat):Prop where
 len:n<=16
 trm:∀i,i<n->TrmR (c i) (r i)
 ord:∀i,i+1<n->r i<r (i+1)
 apt:∀i k,i<k->k<n->z5c (r k:Rat) (r i:Rat)=false
theorem zos (p:Option Addr) (cap n:Nat) (c:Nat->Rat) (r:Nat->Nat) (h:SurdR n c r) (hcap:n<=cap) (w:zA) (hw:Wd w) (hq:Pw w) (hp:RowTm p n (λi=>⟨(numS (c i)).toArray⟩) (λi=>⟨(zD (r i)).toArray⟩) w):
 qJ 40 #[.slice p n cap] w (.int .i64 0):=by
 have sr:∀i,i<n->sz (r i:Rat) 16:=λi hi=>zrg (by omega) (h.trm i hi).nr.len
 have up:∀i,i<n->sz (r i:Rat) 90:=λi hi=>(sr i hi).mono (by omega)
 have pos:∀i,i<n->(0:Rat)<(r i:Rat):=λi hi=>by
  have:=(h.trm i hi).nr.pos
  exact_mod_cast this
 refine z2l p cap n _ _ h.len hcap (hid λi hi W hW hP=>z8b _ _ (h.trm i hi) W hW hP) (hid λi hi W hW=>?_) (hid λk A hk W hW hr hA=>?_) w (hid hw) (hid hq) (hid hp)
 ·have:=zgq (r i:Rat) (r (i+1):Rat) 16 16 (by omega) (by omega) (by omega) (sr i (by omega)) (sr (i+1) hi) W hW
  rw[zhe,zhe] at this
  have e:cmpR (r i:Rat) (r (i+1):Rat)= -1:=by
   have h1:=h.ord i hi
   have h2:(r i:Rat)<(r (i+1):Rat):=by exact_mod_cast h1
   have:=zaw (r i:Rat) (r (i+1):Rat)
   grind
  rw[e] at this
  exact this
 ·refine z7s p cap k A W (hid (z7r p cap k _ _ (by have:=h.len;omega) A (λV=>V.cell? ⟨A,1,none⟩=some (.string ⟨(zD (r k)).toArray⟩)) (λV V' hv hb=>(zac hb).cell hv) (hid λi hi V hV hc=>?_) W (hid hW) (hid hA) (hid λi hi=>hr i (by omega))))
  refine z6w _ _ ⟨#[]⟩ false A _ (hid λU hU=>?_) V (hid hV) (hid hc)
  ·have:=zvz (r k:Rat) (r i:Rat) (Rat.le_of_lt (pos k hk)) (pos i (by omega)) (up k hk) (up i (by omega)) _ _ (zv0 _) (zv0 _) U hU
   have e:=h.apt i k hi hk
   unfold z5c at e
   rw[e,zhe,zhe] at this
   exact this
end Go.Proofs.YtccijmidbdapaaaGreatDoor
