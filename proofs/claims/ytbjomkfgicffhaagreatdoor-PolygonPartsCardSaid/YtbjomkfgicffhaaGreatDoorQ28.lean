/- A triangle that is cut in two: sizes and areas. Plain laws on the walks of polygon.Area. -/
import Derived.Test.YtbjomkfgicffhaaGreatDoorQ16
import Derived.Test.YtbjomkfgicffhaaGreatDoorQ14
import Derived.Test.YtbjomkfgicffhaaGreatDoorQ25
import Derived.Test.YtbjomkfgicffhaaGreatDoorQ27
import Derived.LaidByTextLater
set_option maxRecDepth 100000
set_option maxHeartbeats 8000000
namespace Go.Proofs.YtbjomkfgicffhaaGreatDoor
open Go.RowKit Go.Shelf Lib Str Limb Geo
theorem zt9 (a b c:Pt):cor [a,b,c] 0=a/\cor [a,b,c] 1=b/\cor [a,b,c] 2=c/\cor [a,b,c] 3=a:=by
 refine⟨?_,?_,?_,?_⟩<;>simp[cor]
theorem z11 {P:Pt->Prop} {a b c:Pt} (ha:P a) (hb:P b) (hc:P c) (i:Nat):P (cor [a,b,c] i):=by
 have h:i%3<3:=Nat.mod_lt _ (by omega)
 show P ([a,b,c][i%3]?.getD ⟨0,0⟩)
 generalize i%3=j at h⊢
 match j,h with
 |0,_=>exact ha
 |1,_=>exact hb
 |2,_=>exact hc
theorem zro (a b c:Pt):(zch [a,b,c]/\zbz [a,b,c])↔turn a b c≠0:=by
 rw[<-zt8]
 obtain⟨e0,e1,e2,e3⟩:=zt9 a b c
 constructor
 ·rintro⟨h,k⟩
  have h0:=h 0 (by simp);have h1:=h 1 (by simp);have h2:=h 2 (by simp)
  have k0:=k 0 1 (by omega) (by simp);have k1:=k 0 2 (by omega) (by simp);have k2:=k 1 2 (by omega) (by simp)
  unfold okS2 zea at k0 k1 k2
  simp only[Nat.zero_add,Nat.reduceAdd,e0,e1,e2,e3] at h0 h1 h2 k0 k1 k2
  exact⟨h0,h1,h2,by simpa using k0,by simpa using k1,by simpa using k2⟩
 ·rintro⟨h0,h1,h2,k0,k1,k2⟩
  constructor
  ·intro i h
   match i,h with
   |0,_=>rw[e0,e1];exact h0
   |1,_=>rw[e1,e2];exact h1
   |2,_=>rw[e2,e3];exact h2
  ·intro i k hik hk
   unfold okS2 zea
   match i,k,hik,hk with
   |0,1,_,_=>rw[e0,e1,e2];simpa using k0
   |0,2,_,_=>rw[e0,e1,e2,e3];simpa using k1
   |1,2,_,_=>rw[e1,e2,e3];simpa using k2
   |i+2,k,h,h2=>exact absurd (show k<3 from h2) (by omega)
theorem zpc (a b c:Pt):zbh [a,b,c] 0=a.x*b.y-b.x*a.y/\zbh [a,b,c] 1=b.x*c.y-c.x*b.y/\zbh [a,b,c] 2=c.x*a.y-a.x*c.y:=by
 obtain⟨e0,e1,e2,e3⟩:=zt9 a b c
 unfold zbh
 simp only[Nat.zero_add,Nat.reduceAdd,e0,e1,e2,e3,and_self]
theorem zzn (a b c:Pt):psum (zbh [a,b,c]) 3=zb7 a b c:=by
 obtain⟨t0,t1,t2⟩:=zpc a b c
 show((0+zbh [a,b,c] 0)+zbh [a,b,c] 1)+zbh [a,b,c] 2=_
 rw[t0,t1,t2]
 unfold zb7;grind
theorem zzo {a b c:Pt} (ha:szP a 12) (hb:szP b 12) (hc:szP c 12):sz (zb7 a b c) 101:=by
 rw[zrn]
 exact zb0 (zca (zb0 hb.1 ha.1) (zb0 hc.2 ha.2)) (zca (zb0 hb.2 ha.2) (zb0 hc.1 ha.1))
theorem ztb (p:Option Addr) (cap:Nat) (a b c:Pt) (i j k:Nat) (hi:0<i) (hj:0<j) (hk:0<k) (h:4*(i+j+k)+6<=299) (hi6:i<=36) (hj6:j<=36) (hk6:k<=36) (ha:szP a i) (hb:szP b j) (hc:szP c k)
 (ht:turn a b c≠0) (w:World) (hw:Wd w) (hp:RowPts p [a,b,c] w):
 Calls Tryz.prog 12 #[.slice p 3 cap] w λe w'=>e=.returned (.tuple #[St (numS (zb7 a b c/2)),.int .i64 0])/\Below w.heap.size w w':=by
 obtain⟨e0,e1,e2⟩:=zpc a b c
 have t0:sz (zbh [a,b,c] 0) (i+j+(j+i)+1):=by rw[e0];exact zb0 (zca ha.1 hb.2) (zca hb.1 ha.2)
 have t1:sz (zbh [a,b,c] 1) (j+k+(k+j)+1):=by rw[e1];exact zb0 (zca hb.1 hc.2) (zca hc.1 hb.2)
 have t2:sz (zbh [a,b,c] 2) (k+i+(i+k)+1):=by rw[e2];exact zb0 (zca hc.1 ha.2) (zca ha.1 hc.2)
 have p0:psum (zbh [a,b,c]) 0=0:=rfl
 have p1:psum (zbh [a,b,c]) 1=zbh [a,b,c] 0:=by show 0+zbh [a,b,c] 0=_;grind
 have p2:psum (zbh [a,b,c]) 2=zbh [a,b,c] 0+zbh [a,b,c] 1:=by show psum (zbh [a,b,c]) 1+_=_;rw[p1]
 have p3:psum (zbh [a,b,c]) 3=zbh [a,b,c] 0+zbh [a,b,c] 1+zbh [a,b,c] 2:=by show psum (zbh [a,b,c]) 2+_=_;rw[p2]
 have hs:=(zro a b c).2 ht
 rw[<-zzn]
 refine zt5 p cap [a,b,c] (by simp) (by simp) (z11 (P:=λp=>szP p 36) ⟨ha.1.mono hi6,ha.2.mono hi6⟩ ⟨hb.1.mono hj6,hb.2.mono hj6⟩ ⟨hc.1.mono hk6,hc.2.mono hk6⟩) hs.1 hs.2 ?_ (4*(i+j+k)+5) (by omega) (by omega) ?_ w hw hp
 ·intro n hn
  match n,hn with
  |0,_=>exact⟨1,i+j+(j+i)+1,by omega,by omega,by omega,by rw[p0];exact zjb 1 (by omega),t0⟩
  |1,_=>exact⟨i+j+(j+i)+1,j+k+(k+j)+1,by omega,by omega,by omega,by rw[p1];exact t0,t1⟩
  |2,_=>exact⟨i+j+(j+i)+1+(j+k+(k+j)+1)+1,k+i+(i+k)+1,by omega,by omega,by omega,by rw[p2];exact zk0 t0 t1,t2⟩
 ·show sz (psum (zbh [a,b,c]) 3) _
  rw[p3]
  exact(zk0 (zk0 t0 t1) t2).mono (by omega)
def zbj (n m:Nat):Rat:=((n:Int):Rat)/(((n+m:Nat):Int):Rat)
theorem zhq {n:Nat} (h:0<n):(((n:Nat):Int):Rat)≠0:=by
 intro e;have e2:=Rat.intCast_inj.1 (e.trans Rat.intCast_zero.symm);omega
theorem zrp {n k:Nat} (hk:0<k) (h:n<10^k):sz ((n:Int):Rat) k:=⟨by simpa using h,by simpa using Nat.one_lt_pow (by omega) (by omega)⟩
theorem zm0 {n m:Nat} (hn:1<=n) (h:n+m<100):sz (zbj n m) 2:=by
 have e:zbj n m=Rat.divInt n ((n+m:Nat):Int):=by unfold zbj;rw[Rat.divInt_eq_div]
 rw[e]
 exact zig (by omega) (by omega) (by omega)
theorem z12 {a b:Rat} {n m:Nat} (hn:1<=n):a+(b-a)*zbj n m=(a*((m:Int):Rat)+b*((n:Int):Rat))/(((n+m:Nat):Int):Rat):=by
 have h:=zhq (show 0<n+m by omega)
 have e:(((n+m:Nat):Int):Rat)=((n:Int):Rat)+((m:Int):Rat):=by rw[Int.natCast_add,Rat.intCast_add]
 unfold zbj
 rw[e] at h⊢
 generalize ((n:Int):Rat)=x at*
 generalize ((m:Int):Rat)=y at*
 grind
theorem zxa {a b:Rat} {n m:Nat} (hn:1<=n) (h:n+m<100) (ha:sz a 12) (hb:sz b 12):sz (a+(b-a)*zbj n m) 31:=by
 rw[z12 hn]
 exact zwv (zhq (by omega)) (zk0 (zca ha (zrp (k:=2) (by omega) (by omega))) (zca hb (zrp (k:=2) (by omega) (by omega)))) (zrp (k:=2) (by omega) (by omega))
theorem zzp {n m:Nat} (hn:1<=n) (hm:1<=m):zbj n m≠0/\zbj n m≠1:=by
 have h:=zhq (show 0<n+m by omega)
 have h1:=zhq (show 0<n by omega)
 have h2:=zhq (show 0<m by omega)
 have e:(((n+m:Nat):Int):Rat)=((n:Int):Rat)+((m:Int):Rat):=by rw[Int.natCast_add,Rat.intCast_add]
 unfold zbj
 rw[e] at h⊢
 generalize ((n:Int):Rat)=x at*
 generalize ((m:Int):Rat)=y at*
 constructor<;>intro k<;>grind
end Go.Proofs.YtbjomkfgicffhaaGreatDoor
namespace Go.Proofs.YtbjomkfgicffhaaGreatDoor
open Go.RowKit Go.Shelf Lib Str Limb Geo
attribute [local go_sem] Oper.semAt_some
theorem z13 (n d:Int) (s t r:List UInt8) (h0:(d==0)=false) (h1:(d==1)=false)
 (C1:Hid (∀W:World,Wd W->Calls Tryz.prog 21 #[.int .i64 n] W λe w'=>e=.returned (St s)/\Below W.heap.size W w'))
 (C2:Hid (∀W:World,Wd W->Calls Tryz.prog 21 #[.int .i64 d] W λe w'=>e=.returned (St t)/\Below W.heap.size W w'))
 (C3:Hid (∀W:World,Wd W->Calls Tryz.prog 22 #[St s,St t] W λe w'=>e=.returned (.tuple #[St r,.int .i64 0])/\Below W.heap.size W w'))
 (w:World) (HW:Hid (Wd w)):
 Calls Tryz.prog 7 #[.int .i64 n,.int .i64 d] w λe w'=>e=.returned (.tuple #[St r,.int .i64 0])/\Below w.heap.size w w':=by
 go_enter Tryz.func7,Tryz.ntmps7
 go_wp2_with fail
 refine(C1.out _ HW.out).mono ?_
 rintro e w1 ⟨rfl,hb1⟩
 have HB1:=hid hb1;clear hb1
 go_wp2_with fail
 refine(C2.out _ (HW.out.below HB1.out)).mono ?_
 rintro e w2 ⟨rfl,hb2⟩
 have HB2:=hid (HB1.out.trans (hb2.mono HB1.out.size));clear hb2
 go_wp2_with fail
 refine(C3.out _ (HW.out.below HB2.out)).mono ?_
 rintro e w3 ⟨rfl,hb3⟩
 have HB3:=hid (HB2.out.trans (hb3.mono HB2.out.size));clear hb3
 go_wp2_with fail
 go_ret2
 exact⟨rfl,HB3.out⟩
theorem zzq (n m:Nat) (hn:1<=n) (hm:1<=m) (h:n+m<100) (w:World) (hw:Wd w):
 Calls Tryz.prog 7 #[.int .i64 (n:Int),.int .i64 ((n+m:Nat):Int)] w λe w'=>e=.returned (.tuple #[St (numS (zbj n m)),.int .i64 0])/\Below w.heap.size w w':=by
 have e:zbj n m=Rat.divInt n ((n+m:Nat):Int):=by unfold zbj;rw[Rat.divInt_eq_div]
 rw[e]
 have dg:∀k:Nat,k<100->digs (k:Int)<=300:=λk hk=>Nat.le_trans (zhd (k:=2) (by omega) (by omega)) (by omega)
 exact z13 _ _ (itoa n) (itoa ((n+m:Nat):Int)) _ (by rw[beq_eq_false_iff_ne];omega) (by rw[beq_eq_false_iff_ne];omega) (hid λW hW=>zb3 _ (by omega) (by omega) W hW) (hid λW hW=>zb3 _ (by omega) (by omega) W hW)
  (hid λW hW=>zfa _ _ (by omega) (dg _ (by omega)) (dg _ (by omega)) W hW) w (hid hw)
theorem zrq (p q d t s r:List UInt8) (B:Nat)
 (C1:Hid (∀W:World,Wd W->Calls Tryz.prog 9 #[St q,St p] W λe w'=>e=.returned (.tuple #[St d,.int .i64 0])/\Below W.heap.size W w'))
 (C2:Hid (∀W:World,Wd W->Calls Tryz.prog 10 #[St d,St t] W λe w'=>e=.returned (.tuple #[St s,.int .i64 0])/\Below W.heap.size W w'))
 (C3:Hid (∀W:World,Wd W->Calls Tryz.prog 11 #[St p,St s] W λe w'=>e=.returned (.tuple #[St r,.int .i64 0])/\Below W.heap.size W w'))
 (w:World) (HW:Hid (Wd w)) (HB:Hid (w.cell? ⟨B,0,none⟩=some (St t))):
 Calls Tryz.prog 8 #[St p,St q,.pointer (some ⟨B,0,none⟩)] w λe w'=>e=.returned (St r)/\Below w.heap.size w w':=by
 go_enter Tryz.func8,Tryz.ntmps8
 go_wp2_with fail
 refine(C1.out _ HW.out).mono ?_
 rintro e w1 ⟨rfl,hb1⟩
 have hc:=zai hb1 HB.out
 have HB1:=hid hb1;clear hb1
 go_wp2_with fail
 clear hc
 refine(C2.out _ (HW.out.below HB1.out)).mono ?_
 rintro e w2 ⟨rfl,hb2⟩
 have HB2:=hid (HB1.out.trans (hb2.mono HB1.out.size));clear hb2
 go_wp2_with fail
 refine(C3.out _ (HW.out.below HB2.out)).mono ?_
 rintro e w3 ⟨rfl,hb3⟩
 have HB3:=hid (HB2.out.trans (hb3.mono HB2.out.size));clear hb3
 go_wp2_with fail
 go_ret
 exact⟨rfl,HB3.out⟩
theorem znv (a b:Rat) (n m:Nat) (hn:1<=n) (h:n+m<100) (ha:sz a 12) (hb:sz b 12) (B:Nat) (w:World) (hw:Wd w) (hB:w.cell? ⟨B,0,none⟩=some (St (numS (zbj n m)))):
 Calls Tryz.prog 8 #[St (numS a),St (numS b),.pointer (some ⟨B,0,none⟩)] w λe w'=>e=.returned (St (numS (a+(b-a)*zbj n m)))/\Below w.heap.size w w':=by
 have s1:=zb0 hb ha
 have s2:=zm0 hn h
 have s3:=zca s1 s2
 exact zrq _ _ _ _ _ _ B (hid λW hW=>ztz b a 12 12 (by omega) (by omega) (by omega) hb ha W hW) (hid λW hW=>zjf _ _ _ _ (by omega) (by omega) (by omega) s1 s2 W hW)
  (hid λW hW=>zje _ _ _ _ (by omega) (by omega) (by omega) ha s3 W hW) w (hid hw) (hid hB)
structure TriS (w:World) (a1 a2 b1 b2 c1 c2 s:List UInt8) (B:Nat) (W:World):Prop where
 bel:Below w.heap.size w W
 lt:w.heap.size+2<B
 ha:W.heap[w.heap.size]? =some (.cells #[St a1,St a2] 24 (0,0))
 hb:W.heap[w.heap.size+1]? =some (.cells #[St b1,St b2] 24 (0,0))
 hc:W.heap[w.heap.size+1+1]? =some (.cells #[St c1,St c2] 24 (0,0))
 sh:W.heap[B]? =some (.cells #[St s] 22 (0,0))
section
variable {w W W':World} {a1 a2 b1 b2 c1 c2 s px py:List UInt8} {B b:Nat} {f g:Nat->Bool}
theorem TriS.blt (h:TriS w a1 a2 b1 b2 c1 c2 s B W):B<W.heap.size:=(Array.getElem?_eq_some_iff.1 h.sh).1
theorem TriS.next (h:TriS w a1 a2 b1 b2 c1 c2 s B W) (hb:Below W.heap.size W W'):TriS w a1 a2 b1 b2 c1 c2 s B W':=
 have hl:=h.blt;have hl2:=h.lt
 ⟨h.bel.trans (hb.mono h.bel.size),h.lt,(hb.block _ (by omega)).trans h.ha,(hb.block _ (by omega)).trans h.hb,(hb.block _ (by omega)).trans h.hc,(hb.block _ hl).trans h.sh⟩
theorem TriS.put (h:TriS w a1 a2 b1 b2 c1 c2 s B W) {p:Nat} (hp:B<p) (o:Nat) (v:Value):TriS w a1 a2 b1 b2 c1 c2 s B (W.setCell ⟨p,o,none⟩ v):=
 have hl2:=h.lt
 ⟨h.bel.setCell (by simp;omega) _,h.lt,by rw[Below.heap_setCell _ _ _ _ (by simp;omega)];exact h.ha,by rw[Below.heap_setCell _ _ _ _ (by simp;omega)];exact h.hb,by rw[Below.heap_setCell _ _ _ _ (by simp;omega)];exact h.hc,by rw[Below.heap_setCell _ _ _ _ (by simp;omega)];exact h.sh⟩
theorem TriS.ka0 (h:TriS w a1 a2 b1 b2 c1 c2 s B W):W.cell? ⟨w.heap.size,0,none⟩=some (St a1):=by have:=h.ha;simp[World.cell?,this]
theorem TriS.ka1 (h:TriS w a1 a2 b1 b2 c1 c2 s B W):W.cell? ⟨w.heap.size,1,none⟩=some (St a2):=by have:=h.ha;simp[World.cell?,this]
theorem TriS.kb0 (h:TriS w a1 a2 b1 b2 c1 c2 s B W):W.cell? ⟨w.heap.size+1,0,none⟩=some (St b1):=by have:=h.hb;simp[World.cell?,this]
theorem TriS.kb1 (h:TriS w a1 a2 b1 b2 c1 c2 s B W):W.cell? ⟨w.heap.size+1,1,none⟩=some (St b2):=by have:=h.hb;simp[World.cell?,this]
theorem TriS.kc0 (h:TriS w a1 a2 b1 b2 c1 c2 s B W):W.cell? ⟨w.heap.size+1+1,0,none⟩=some (St c1):=by have:=h.hc;simp[World.cell?,this]
theorem TriS.kc1 (h:TriS w a1 a2 b1 b2 c1 c2 s B W):W.cell? ⟨w.heap.size+1+1,1,none⟩=some (St c2):=by have:=h.hc;simp[World.cell?,this]
theorem TriS.ks0 (h:TriS w a1 a2 b1 b2 c1 c2 s B W):W.cell? ⟨B,0,none⟩=some (St s):=by have:=h.sh;simp[World.cell?,this]
structure TriG (w:World) (a1 a2 b1 b2 c1 c2 s px py:List UInt8) (B b:Nat) (f:Nat->Bool) (W:World):Prop where
 base:TriS w a1 a2 b1 b2 c1 c2 s B W
 g:f 13=true->B<b/\b<W.heap.size/\W.heap[b]? =some (.cells (if f 14=true then #[St px,St py] else #[St [],St []]) 24 (0,0))
theorem TriG.congr (h:TriG w a1 a2 b1 b2 c1 c2 s px py B b f W) (e13:g 13=f 13) (e14:g 14=f 14):TriG w a1 a2 b1 b2 c1 c2 s px py B b g W:=⟨h.base,by rw[e13,e14];exact h.g⟩
theorem TriG.next (h:TriG w a1 a2 b1 b2 c1 c2 s px py B b f W) (hb:Below W.heap.size W W'):TriG w a1 a2 b1 b2 c1 c2 s px py B b f W':=
 ⟨h.base.next hb,λk=>⟨(h.g k).1,Nat.lt_of_lt_of_le (h.g k).2.1 hb.size,(hb.block _ (h.g k).2.1).trans (h.g k).2.2⟩⟩
theorem TriG.new (h:TriG w a1 a2 b1 b2 c1 c2 s px py B b f W) (h14:f 14=false) (_:g 13=true) (e14:g 14=f 14):TriG w a1 a2 b1 b2 c1 c2 s px py B W.heap.size g (W.alloc (.cells #[St [],St []] 24)):=by
 refine⟨h.base.next ((Below.refl _ W).alloc (Nat.le_refl _) _),λ_=>⟨h.base.blt,by simp,?_⟩⟩
 rw[e14,h14,if_neg (by simp)];exact World.alloc_heap_new W _
theorem TriG.put (h:TriG w a1 a2 b1 b2 c1 c2 s px py B b f W) (h14:f 14=false) (h13:f 13=true) (_:g 13=f 13) (e14:g 14=true):TriG w a1 a2 b1 b2 c1 c2 s px py B b g ((W.setCell ⟨b,0,none⟩ (St px)).setCell ⟨b,1,none⟩ (St py)):=by
 obtain⟨k1,k2,k3⟩:=h.g h13
 refine⟨(h.base.put k1 _ _).put k1 _ _,λ_=>⟨k1,by simpa using k2,?_⟩⟩
 rw[if_pos e14];rw[h14,if_neg (by simp)] at k3;exact zjh k3
end
def zvv (w:World) (B:Nat) (a1 a2 b1 b2 px py:List UInt8) (b k:Nat):Value:=
 ([.func (.func 8) #[] #[.pointer (some ⟨B,0,none⟩)],.pointer (some ⟨w.heap.size,0,none⟩),St a1,.pointer (some ⟨w.heap.size+1,0,none⟩),St b1,St px,.func (.func 8) #[] #[.pointer (some ⟨B,0,none⟩)],.pointer (some ⟨w.heap.size,1,none⟩),St a2,.pointer (some ⟨w.heap.size+1,1,none⟩),St b2,St py,.agg #[St px,St py],.pointer (some ⟨b,0,none⟩)]:List Value).getD k undef
structure TriE (w:World) (a1 a2 b1 b2 c1 c2 s px py:List UInt8) (B b:Nat) (W:World):Prop where
 base:TriS w a1 a2 b1 b2 c1 c2 s B W
 lt:B<b
 hp:W.heap[b]? =some (.cells #[St px,St py] 24 (0,0))
theorem TriE.next {w W W':World} {a1 a2 b1 b2 c1 c2 s px py:List UInt8} {B b:Nat} (h:TriE w a1 a2 b1 b2 c1 c2 s px py B b W) (hb:Below W.heap.size W W'):TriE w a1 a2 b1 b2 c1 c2 s px py B b W':=
 ⟨h.base.next hb,h.lt,(hb.block _ (Array.getElem?_eq_some_iff.1 h.hp).1).trans h.hp⟩
theorem TriE.p0 {w W:World} {a1 a2 b1 b2 c1 c2 s px py:List UInt8} {B b:Nat} (h:TriE w a1 a2 b1 b2 c1 c2 s px py B b W):W.cell? ⟨b,0,none⟩=some (St px)/\W.cell? ⟨b,1,none⟩=some (St py):=by have:=h.hp;simp[World.cell?,this]
structure PartC (a1 a2 b1 b2 c1 c2 s px py u x y:List UInt8) (k kj:Int):Prop where
 OF:Hid (∀W:World,Wd W->Calls Tryz.prog 7 #[.int .i64 k,.int .i64 kj] W λe w'=>e=.returned (.tuple #[St s,.int .i64 0])/\Below W.heap.size W w')
 BX:Hid (∀(B:Nat) (W:World),Wd W->W.cell? ⟨B,0,none⟩=some (St s)->Calls Tryz.prog 8 #[St a1,St b1,.pointer (some ⟨B,0,none⟩)] W λe w'=>e=.returned (St px)/\Below W.heap.size W w')
 BY:Hid (∀(B:Nat) (W:World),Wd W->W.cell? ⟨B,0,none⟩=some (St s)->Calls Tryz.prog 8 #[St a2,St b2,.pointer (some ⟨B,0,none⟩)] W λe w'=>e=.returned (St py)/\Below W.heap.size W w')
 A1:Hid (∀W:World,Wd W->Calls Tryz.prog 12 #[.slice (some ⟨W.heap.size,0,none⟩) 3 3] (W.alloc (.cells #[St a1,St a2,St b1,St b2,St c1,St c2] 24)) λe w'=>e=.returned (.tuple #[St u,.int .i64 0])/\Below W.heap.size W w')
 A2:Hid (∀W:World,Wd W->Calls Tryz.prog 12 #[.slice (some ⟨W.heap.size,0,none⟩) 3 3] (W.alloc (.cells #[St a1,St a2,St px,St py,St c1,St c2] 24)) λe w'=>e=.returned (.tuple #[St x,.int .i64 0])/\Below W.heap.size W w')
 A3:Hid (∀W:World,Wd W->Calls Tryz.prog 12 #[.slice (some ⟨W.heap.size,0,none⟩) 3 3] (W.alloc (.cells #[St px,St py,St b1,St b2,St c1,St c2] 24)) λe w'=>e=.returned (.tuple #[St y,.int .i64 0])/\Below W.heap.size W w')
 AD:Hid (∀W:World,Wd W->Calls Tryz.prog 11 #[St x,St y] W λe w'=>e=.returned (.tuple #[St u,.int .i64 0])/\Below W.heap.size W w')
 ML:Hid (∀W:World,Wd W->Calls Tryz.prog 10 #[St u,St s] W λe w'=>e=.returned (.tuple #[St x,.int .i64 0])/\Below W.heap.size W w')
theorem zvw (a1 a2 b1 b2 c1 c2:List UInt8) (n m:Nat) (hn:n<256) (hm:m<256) (G:Prop)
 (FI:Hid (∀W:World,Wd W->Calls Tryz.prog 5 #[.slice (some ⟨W.heap.size,0,none⟩) 3 3] (W.alloc (.cells #[St a1,St a2,St b1,St b2,St c1,St c2] 24)) (OnlyP W G)))
 (w:World) (HW:Hid (Wd w)) (AW:Hid (∀W:World,Below w.heap.size w W->Calls Tryz.prog 6 #[] W λe w'=>e=.returned (.bool true)/\Below W.heap.size W w'))
 (GD:Hid (G->∃s px py u x y,PartC a1 a2 b1 b2 c1 c2 s px py u x y ((1+n%16:Nat):Int) ((1+n%16+(1+m%16):Nat):Int))):
 Calls Tryz.prog 3 #[.agg #[St a1,St a2],.agg #[St b1,St b2],.agg #[St c1,St c2],.int .u8 (n:Int),.int .u8 (m:Int)] w λe w'=>e=.returned (.bool true)/\Below w.heap.size w w':=by
 obtain⟨W1,hW1⟩:∃W1,W1=((w.alloc (.cells #[St a1,St a2] 24)).alloc (.cells #[St b1,St b2] 24)).alloc (.cells #[St c1,St c2] 24):=⟨_,rfl⟩
 have hb1:Below w.heap.size w W1:=by rw[hW1];exact(((Below.refl _ w).alloc (Nat.le_refl _) _).alloc (by simp) _).alloc (by simp;omega) _
 have hs1:W1.heap.size=w.heap.size+1+1+1:=by rw[hW1];simp
 have g1:W1.heap[w.heap.size]? =some (.cells #[St a1,St a2] 24 (0,0))/\W1.heap[w.heap.size+1]? =some (.cells #[St b1,St b2] 24 (0,0))/\W1.heap[w.heap.size+1+1]? =some (.cells #[St c1,St c2] 24 (0,0)):=by
  have e1:=World.alloc_heap_new w (.cells #[St a1,St a2] 24 (0,0))
  have e2:=World.alloc_heap_new (w.alloc (.cells #[St a1,St a2] 24)) (.cells #[St b1,St b2] 24 (0,0))
  have e3:=World.alloc_heap_new ((w.alloc (.cells #[St a1,St a2] 24)).alloc (.cells #[St b1,St b2] 24)) (.cells #[St c1,St c2] 24 (0,0))
  simp only[World.size_alloc] at e2 e3
  rw[hW1]
  refine⟨?_,?_,e3⟩
  ·exact(Below.heap_alloc _ _ _ (by simp only[World.size_alloc];omega)).trans ((Below.heap_alloc _ _ _ (by simp only[World.size_alloc];omega)).trans e1)
  ·exact(Below.heap_alloc _ _ _ (by simp only[World.size_alloc];omega)).trans e2
 have hfi:=FI.out W1 (HW.out.below hb1)
 have HG1:=hid (⟨hb1,hs1,g1⟩:_/\_/\_)
 rw[hW1] at hfi
 simp only[World.size_alloc] at hfi
 have HFI:=hid hfi;clear hfi hb1 hs1 g1 FI
 have HW1:=hid hW1;clear hW1
 go_enter Tryz.func3,Tryz.ntmps3
 go_wp2_with fail
 refine HFI.out.mono ?_
 rintro e w2 ⟨t,rfl,ht,hB⟩
 have hB':Below W1.heap.size W1 w2:=by rw[HW1.out];exact hB
 obtain⟨hb1,hs1,g1,g2,g3⟩:=HG1.out
 have HB2:=hid (hb1.trans (hB'.mono hb1.size))
 have HC2:=hid (⟨(hB'.block _ (by omega)).trans g1,(hB'.block _ (by omega)).trans g2,(hB'.block _ (by omega)).trans g3,(by have:=hB'.size;omega:w.heap.size+2<w2.heap.size)⟩:w2.heap[w.heap.size]? =some (.cells #[St a1,St a2] 24 (0,0))/\w2.heap[w.heap.size+1]? =some (.cells #[St b1,St b2] 24 (0,0))/\w2.heap[w.heap.size+1+1]? =some (.cells #[St c1,St c2] 24 (0,0))/\w.heap.size+2<w2.heap.size)
 have HT:=hid ht
 clear ht hB hB' hb1 hs1 g1 g2 g3 HG1 HFI HW1 W1
 cases t
 case false=>
  go_wp2_with fail
  refine(AW.out w2 HB2.out).mono ?_
  rintro e w3 ⟨rfl,hb3⟩
  have HB3:=hid (HB2.out.trans (hb3.mono HB2.out.size))
  clear hb3
  go_wp2_with fail
  go_ret
  exact⟨rfl,HB3.out⟩
 case true=>
  obtain⟨s,px,py,u,x,y,⟨OF,BX,BY,A1,A2,A3,AD,ML⟩⟩:=GD.out (HT.out rfl)
  have e1:∀k:Nat,k<256->wrap64 (1+(wrap64 (k:Int)).tmod 16)=((1+k%16:Nat):Int):=λk hk=>by
   have w1:wrap64 (k:Int)=k:=by unfold wrap64;omega
   have w2:(k:Int).tmod 16=((k%16:Nat):Int):=by rw[Int.tmod_eq_emod_of_nonneg (by omega)];omega
   rw[w1,w2]
   have:k%16<16:=Nat.mod_lt _ (by omega)
   unfold wrap64;omega
  have e2:wrap64 (((1+n%16:Nat):Int)+((1+m%16:Nat):Int))=((1+n%16+(1+m%16):Nat):Int):=by
   have:n%16<16:=Nat.mod_lt _ (by omega)
   have:m%16<16:=Nat.mod_lt _ (by omega)
   unfold wrap64;omega
  have HE:=hid (⟨e1 n hn,e1 m hm,e2⟩:_/\_/\_)
  clear GD HT e1 e2 hn hm
  go_wp2_with fail
  rw[HE.out.1,HE.out.2.1,HE.out.2.2]
  clear HE
  generalize ((1+n%16:Nat):Int)=k at*
  generalize ((1+m%16:Nat):Int)=j at*
  generalize ((1+n%16+(1+m%16):Nat):Int)=kj at*
  refine(OF.out w2 (HW.out.below HB2.out)).mono ?_
  rintro e w3 ⟨rfl,hb3⟩
  have hS3:TriS w a1 a2 b1 b2 c1 c2 s w3.heap.size (w3.alloc (.cells #[St s] 22)):=by
   obtain⟨g1,g2,g3,g4⟩:=HC2.out
   have hsz:=hb3.size
   have hba:Below w3.heap.size w3 (w3.alloc (.cells #[St s] 22)):=(Below.refl _ w3).alloc (Nat.le_refl _) _
   have hb23:=hb3.trans (hba.mono hb3.size)
   exact⟨HB2.out.trans (hb23.mono HB2.out.size),by omega,(hb23.block _ (by omega)).trans g1,(hb23.block _ (by omega)).trans g2,(hb23.block _ (by omega)).trans g3,World.alloc_heap_new _ _⟩
  have HS3:=hid hS3
  clear hS3 hb3 HB2 HC2 OF
  go_wp2_with fail
  obtain⟨W3,hW3⟩:∃W3,W3=w3.alloc (.cells #[St s] 22):=⟨_,rfl⟩
  rw[<-hW3] at HS3⊢
  clear hW3
  generalize w3.heap.size=B at*
  refine zc4 (zvv w B a1 a2 b1 b2 px py) (TriG w a1 a2 b1 b2 c1 c2 s px py B) (by kernel_rfl) (by kernel_rfl) 0 ⟨HS3.out.next (Below.refl _ _).drew,λk=>(by cases k)⟩ λb=>?_
  refine zag (.func (.func 8) #[] #[.pointer (some ⟨B,0,none⟩)]) (by rfl) (by rfl) (λf W' h=>h.congr rfl rfl) (λf W' hf h=>by go_simp) ?_
  try simp only[Act.put,zzA,zzB,zzC]
  refine zag (.pointer (some ⟨w.heap.size,0,none⟩)) (by rfl) (by rfl) (λf W' h=>h.congr rfl rfl) (λf W' hf h=>by go_simp) ?_
  try simp only[Act.put,zzA,zzB,zzC]
  refine zag (St a1) (by rfl) (by rfl) (λf W' h=>h.congr rfl rfl) (λf W' hf h=>by have h0:=h.base.ka0;go_simp) ?_
  try simp only[Act.put,zzA,zzB,zzC]
  refine zag (.pointer (some ⟨w.heap.size+1,0,none⟩)) (by rfl) (by rfl) (λf W' h=>h.congr rfl rfl) (λf W' hf h=>by go_simp) ?_
  try simp only[Act.put,zzA,zzB,zzC]
  refine zag (St b1) (by rfl) (by rfl) (λf W' h=>h.congr rfl rfl) (λf W' hf h=>by have h0:=h.base.kb0;go_simp) ?_
  try simp only[Act.put,zzA,zzB,zzC]
  refine zbv (St px) (by rfl) (by rfl) (λf W' hf h C' hC'=>by
   have hs:=h.base.ks0
   go_simp
   refine(BX.out _ _ (HW.out.below h.base.bel) hs).mono ?_
   rintro e w' ⟨rfl,hb⟩
   exact⟨_,rfl,hC' _ ((h.next hb).congr rfl rfl)⟩) ?_
  try simp only[Act.put,zzA,zzB,zzC]
  refine zag (.func (.func 8) #[] #[.pointer (some ⟨B,0,none⟩)]) (by rfl) (by rfl) (λf W' h=>h.congr rfl rfl) (λf W' hf h=>by go_simp) ?_
  try simp only[Act.put,zzA,zzB,zzC]
  refine zag (.pointer (some ⟨w.heap.size,1,none⟩)) (by rfl) (by rfl) (λf W' h=>h.congr rfl rfl) (λf W' hf h=>by go_simp) ?_
  try simp only[Act.put,zzA,zzB,zzC]
  refine zag (St a2) (by rfl) (by rfl) (λf W' h=>h.congr rfl rfl) (λf W' hf h=>by have h0:=h.base.ka1;go_simp) ?_
  try simp only[Act.put,zzA,zzB,zzC]
  refine zag (.pointer (some ⟨w.heap.size+1,1,none⟩)) (by rfl) (by rfl) (λf W' h=>h.congr rfl rfl) (λf W' hf h=>by go_simp) ?_
  try simp only[Act.put,zzA,zzB,zzC]
  refine zag (St b2) (by rfl) (by rfl) (λf W' h=>h.congr rfl rfl) (λf W' hf h=>by have h0:=h.base.kb1;go_simp) ?_
  try simp only[Act.put,zzA,zzB,zzC]
  refine zbv (St py) (by rfl) (by rfl) (λf W' hf h C' hC'=>by
   have hs:=h.base.ks0
   go_simp
   refine(BY.out _ _ (HW.out.below h.base.bel) hs).mono ?_
   rintro e w' ⟨rfl,hb⟩
   exact⟨_,rfl,hC' _ ((h.next hb).congr rfl rfl)⟩) ?_
  try simp only[Act.put,zzA,zzB,zzC]
  refine zag (.agg #[St px,St py]) (by rfl) (by rfl) (λf W' h=>h.congr rfl rfl) (λf W' hf h=>by go_simp) ?_
  try simp only[Act.put,zzA,zzB,zzC]
  refine zdc (.pointer (some ⟨b,0,none⟩)) (by rfl) (by rfl) (λf W' hf h C' hC'=>by
   have h14:=hf.no (j:=14) hf.self (by kernel_rfl)
   have hj:∀j,f j=true->zvv w B a1 a2 b1 b2 px py W'.heap.size j=zvv w B a1 a2 b1 b2 px py b j:=by
    intro j hj
    match j,hj with
    |0,_|1,_|2,_|3,_|4,_|5,_|6,_|7,_|8,_|9,_|10,_|11,_|12,_=>rfl
    |13,hj=>rw[hf.self] at hj;cases hj
    |_+14,_=>rfl
   have:=hC' _ _ hj (h.new h14 rfl rfl)
   go_simp
   exact this) ?_
  try simp only[Act.put,zzA,zzB,zzC]
  refine zbv undef (by rfl) (by rfl) (λf W' hf h C' hC'=>by
   have h13:=hf.done 13 (by kernel_rfl)
   have h14:=hf.self
   have hc:=hC' _ (h.put h14 h13 rfl rfl)
   have k3:=(h.g h13).2.2
   rw[h14,if_neg (by simp)] at k3
   have b0:W'.cell? ⟨b,0,none⟩=some (St []):=by simp[World.cell?,k3]
   have b1:W'.cell? ⟨b,1,none⟩=some (St []):=by simp[World.cell?,k3]
   have f0:W'.frozen? ⟨b,0,none⟩=false:=by simp[World.frozen?,k3]
   have f1:W'.frozen? ⟨b,1,none⟩=false:=by simp[World.frozen?,k3]
   clear k3
   go_simp
   exact hc) ?_
  try simp only[Act.put]
  refine ze1 λf W4 hf h=>?_
  have hE:TriE w a1 a2 b1 b2 c1 c2 s px py B b W4:=by
   have f13:=hf 13 (by decide);have f14:=hf 14 (by decide)
   have g:=h.g f13
   rw[if_pos f14] at g
   exact⟨h.base,g.1,g.2.2⟩
  have HE4:=hid hE
  clear h hf hE HS3 BX BY f
  obtain⟨i0,i1⟩:=HE4.out.p0
  have i2:=HE4.out.base.ka0;have i3:=HE4.out.base.ka1;have i4:=HE4.out.base.kb0;have i5:=HE4.out.base.kb1;have i6:=HE4.out.base.kc0;have i7:=HE4.out.base.kc1;have i8:=HE4.out.base.ks0
  go_wp2_with fail
  clear i0 i1 i2 i3 i4 i5 i6 i7 i8
  refine(A1.out W4 (HW.out.below HE4.out.base.bel)).mono ?_
  rintro e W5 ⟨rfl,hb5⟩
  have HE5:=hid (HE4.out.next hb5)
  clear hb5 HE4 A1
  obtain⟨i0,i1⟩:=HE5.out.p0
  have i2:=HE5.out.base.ka0;have i3:=HE5.out.base.ka1;have i4:=HE5.out.base.kb0;have i5:=HE5.out.base.kb1;have i6:=HE5.out.base.kc0;have i7:=HE5.out.base.kc1;have i8:=HE5.out.base.ks0
  go_wp2_with fail
  clear i0 i1 i2 i3 i4 i5 i6 i7 i8
  refine(A2.out W5 (HW.out.below HE5.out.base.bel)).mono ?_
  rintro e W6 ⟨rfl,hb6⟩
  have HE6:=hid (HE5.out.next hb6)
  clear hb6 HE5 A2
  obtain⟨i0,i1⟩:=HE6.out.p0
  have i2:=HE6.out.base.ka0;have i3:=HE6.out.base.ka1;have i4:=HE6.out.base.kb0;have i5:=HE6.out.base.kb1;have i6:=HE6.out.base.kc0;have i7:=HE6.out.base.kc1;have i8:=HE6.out.base.ks0
  go_wp2_with fail
  clear i0 i1 i2 i3 i4 i5 i6 i7 i8
  refine(A3.out W6 (HW.out.below HE6.out.base.bel)).mono ?_
  rintro e W7 ⟨rfl,hb7⟩
  have HE7:=hid (HE6.out.next hb7)
  clear hb7 HE6 A3
  obtain⟨i0,i1⟩:=HE7.out.p0
  have i2:=HE7.out.base.ka0;have i3:=HE7.out.base.ka1;have i4:=HE7.out.base.kb0;have i5:=HE7.out.base.kb1;have i6:=HE7.out.base.kc0;have i7:=HE7.out.base.kc1;have i8:=HE7.out.base.ks0
  go_wp2_with fail
  clear i0 i1 i2 i3 i4 i5 i6 i7 i8
  refine(AD.out W7 (HW.out.below HE7.out.base.bel)).mono ?_
  rintro e W8 ⟨rfl,hb8⟩
  have HE8:=hid (HE7.out.next hb8)
  clear hb8 HE7 AD
  obtain⟨i0,i1⟩:=HE8.out.p0
  have i2:=HE8.out.base.ka0;have i3:=HE8.out.base.ka1;have i4:=HE8.out.base.kb0;have i5:=HE8.out.base.kb1;have i6:=HE8.out.base.kc0;have i7:=HE8.out.base.kc1;have i8:=HE8.out.base.ks0
  go_wp2_with fail
  clear i0 i1 i2 i3 i4 i5 i6 i7 i8
  refine(ML.out W8 (HW.out.below HE8.out.base.bel)).mono ?_
  rintro e W9 ⟨rfl,hb9⟩
  have HE9:=hid (HE8.out.next hb9)
  clear hb9 HE8 ML
  go_wp2_with fail
  refine(AW.out W9 HE9.out.base.bel).mono ?_
  rintro e W10 ⟨rfl,hb⟩
  have HB:=hid (HE9.out.base.bel.trans (hb.mono HE9.out.base.bel.size))
  clear hb HE9
  go_wp2_with fail
  go_ret
  exact⟨rfl,HB.out⟩
end Go.Proofs.YtbjomkfgicffhaaGreatDoor
namespace Go.Proofs.YtbjomkfgicffhaaGreatDoor
open Go.RowKit Go.Shelf Lib Str Limb Geo
theorem RowTx.three (W:World) (t:TypeId) (a b c d e f:List UInt8):RowTx (some ⟨W.heap.size,0,none⟩) [(a,b),(c,d),(e,f)] (W.alloc (.cells #[St a,St b,St c,St d,St e,St f] t)):=by
 have A:=World.alloc_heap_new W (.cells #[St a,St b,St c,St d,St e,St f] t)
 intro i hi
 refine⟨_,_,rfl,?_⟩
 match i,hi with
 |0,_=>exact⟨by rw[Go.Joins.cell_of_block A];rfl,by rw[Go.Joins.cell_of_block A];rfl⟩
 |1,_=>exact⟨by rw[Go.Joins.cell_of_block A];rfl,by rw[Go.Joins.cell_of_block A];rfl⟩
 |2,_=>exact⟨by rw[Go.Joins.cell_of_block A];rfl,by rw[Go.Joins.cell_of_block A];rfl⟩
theorem zsf (W:World) (t:TypeId) (a b c:Pt):RowPts (some ⟨W.heap.size,0,none⟩) [a,b,c] (W.alloc (.cells #[St (numS a.x),St (numS a.y),St (numS b.x),St (numS b.y),St (numS c.x),St (numS c.y)] t)):=
 RowTx.three W t _ _ _ _ _ _
theorem zpo {W w':World} {o:Obj} (h:Below (W.alloc o).heap.size (W.alloc o) w'):Below W.heap.size W w':=
 have hb:Below W.heap.size W (W.alloc o):=(Below.refl _ W).alloc (Nat.le_refl _) _
 hb.trans (h.mono hb.size)
theorem zj9 (a b c:Pt) (i j k:Nat) (hi:0<i) (hj:0<j) (hk:0<k) (h:4*(i+j+k)+6<=299) (hi6:i<=36) (hj6:j<=36) (hk6:k<=36) (ha:szP a i) (hb:szP b j) (hc:szP c k) (ht:turn a b c≠0) (r:Rat) (hr:zb7 a b c/2=r):
 Hid (∀W:World,Wd W->Calls Tryz.prog 12 #[.slice (some ⟨W.heap.size,0,none⟩) 3 3] (W.alloc (.cells #[St (numS a.x),St (numS a.y),St (numS b.x),St (numS b.y),St (numS c.x),St (numS c.y)] 24)) λe w'=>e=.returned (.tuple #[St (numS r),.int .i64 0])/\Below W.heap.size W w'):=
 hid λW hW=>by
  have hal:Below W.heap.size W (W.alloc (.cells #[St (numS a.x),St (numS a.y),St (numS b.x),St (numS b.y),St (numS c.x),St (numS c.y)] 24)):=(Below.refl _ W).alloc (Nat.le_refl _) _
  refine(ztb (some ⟨W.heap.size,0,none⟩) 3 a b c i j k hi hj hk h hi6 hj6 hk6 ha hb hc ht _ (hW.below hal) (zsf W _ a b c)).mono ?_
  rintro e w' ⟨rfl,hb⟩
  rw[hr]
  exact⟨rfl,zpo hb⟩
theorem zvx {n m:Nat} (hn:1<=n):1-zbj n m=zbj m n:=by
 have h:=zhq (show 0<n+m by omega)
 have e:(((n+m:Nat):Int):Rat)=((n:Int):Rat)+((m:Int):Rat):=by rw[Int.natCast_add,Rat.intCast_add]
 unfold zbj
 rw[Nat.add_comm m n,e]
 rw[e] at h
 generalize ((n:Int):Rat)=x at*
 generalize ((m:Int):Rat)=y at*
 grind
theorem zyd (a1 a2 b1 b2 c1 c2:List UInt8) (n m:Nat) (hn:n<256) (hm:m<256)
 (w:World) (AW:Hid (∀W:World,Below w.heap.size w W->Calls Tryz.prog 6 #[] W λe w'=>e=.returned (.bool true)/\Below W.heap.size W w')) (hw:Wd w):
 Calls Tryz.prog 3 #[.agg #[St a1,St a2],.agg #[St b1,St b2],.agg #[St c1,St c2],.int .u8 (n:Int),.int .u8 (m:Int)] w λe w'=>e=.returned (.bool true)/\Below w.heap.size w w':=by
 refine zvw a1 a2 b1 b2 c1 c2 n m hn hm (zqn [(a1,a2),(b1,b2),(c1,c2)]) (hid λW hW=>?_) w (hid hw) AW (hid ?_)
 ·have hal:Below W.heap.size W (W.alloc (.cells #[St a1,St a2,St b1,St b2,St c1,St c2] 24)):=(Below.refl _ W).alloc (Nat.le_refl _) _
  refine(zug (some ⟨W.heap.size,0,none⟩) 3 [(a1,a2),(b1,b2),(c1,c2)] (by simp) (by simp) _ (hW.below hal) (RowTx.three W _ _ _ _ _ _ _)).mono ?_
  rintro e w' ⟨b,rfl,h,hb⟩
  exact⟨b,rfl,h,zpo hb⟩
 ·rintro⟨q,hq,hz,hs,hp⟩
  match q,hq,hz,hs,hp with
  |[a,b,c],hq,hz,hs,hp=>
   simp only[txt,List.map_cons,List.map_nil,List.cons.injEq,Prod.mk.injEq,and_true] at hq
   obtain⟨⟨rfl,rfl⟩,⟨rfl,rfl⟩,⟨rfl,rfl⟩⟩:=hq
   have ha:szP a 12:=hz a (by simp)
   have hb:szP b 12:=hz b (by simp)
   have hc:szP c 12:=hz c (by simp)
   have ht:=(zro a b c).1 ⟨hs,hp⟩
   have n16:n%16<16:=Nat.mod_lt _ (by omega)
   have m16:m%16<16:=Nat.mod_lt _ (by omega)
   generalize hN:1+n%16=N
   generalize hM:1+m%16=M
   have hN1:1<=N:=by omega
   have hM1:1<=M:=by omega
   have hNM:N+M<100:=by omega
   obtain⟨t0,t1⟩:=zzp hN1 hM1
   have sT:=zm0 hN1 hNM
   have sR:sz (1-zbj N M) 2:=by rw[zvx hN1];exact zm0 hM1 (by omega)
   have hcut:=z10 ht t0 t1
   have hcx:=zxa hN1 hNM ha.1 hb.1
   have hcy:=zxa hN1 hNM ha.2 hb.2
   have hcz:szP (ze2 a b (zbj N M)) 31:=⟨hcx,hcy⟩
   have sA:sz (zb7 a b c/2) 102:=zwv (by decide) (zzo ha hb hc) zw8
   have e2:zb7 a (ze2 a b (zbj N M)) c/2=zb7 a b c/2*zbj N M:=by rw[zpa];grind
   have e3:zb7 (ze2 a b (zbj N M)) b c/2=zb7 a b c/2*(1-zbj N M):=by rw[znu];grind
   have es:zb7 a b c/2*zbj N M+zb7 a b c/2*(1-zbj N M)=zb7 a b c/2:=by grind
   refine⟨numS (zbj N M),numS (ze2 a b (zbj N M)).x,numS (ze2 a b (zbj N M)).y,numS (zb7 a b c/2),numS (zb7 a b c/2*zbj N M),numS (zb7 a b c/2*(1-zbj N M)),?_,?_,?_,?_,?_,?_,?_,?_⟩
   ·exact hid λW hW=>zzq N M hN1 hM1 hNM W hW
   ·exact hid λB W hW hB=>znv a.x b.x N M hN1 hNM ha.1 hb.1 B W hW hB
   ·exact hid λB W hW hB=>znv a.y b.y N M hN1 hNM ha.2 hb.2 B W hW hB
   ·exact zj9 a b c 12 12 12 (by omega) (by omega) (by omega) (by omega) (by omega) (by omega) (by omega) ha hb hc ht _ rfl
   ·exact zj9 a (ze2 a b (zbj N M)) c 12 31 12 (by omega) (by omega) (by omega) (by omega) (by omega) (by omega) (by omega) ha hcz hc hcut.1 _ e2
   ·exact zj9 (ze2 a b (zbj N M)) b c 31 12 12 (by omega) (by omega) (by omega) (by omega) (by omega) (by omega) (by omega) hcz hb hc hcut.2 _ e3
   ·refine hid λW hW=>?_
    have:=zje (zb7 a b c/2*zbj N M) (zb7 a b c/2*(1-zbj N M)) 104 104 (by omega) (by omega) (by omega) (zca sA sT) (zca sA sR) W hW
    rwa [es] at this
   ·exact hid λW hW=>zjf _ _ 102 2 (by omega) (by omega) (by omega) sA sT W hW
end Go.Proofs.YtbjomkfgicffhaaGreatDoor
namespace Go.Proofs.YtbjomkfgicffhaaGreatDoor
open Go.RowKit Go.Shelf Lib Str Limb
open Go.ChangeShapes Go.WideShapes Go.ChangeAt
theorem zuh {H:Type} {enc:TypeId×Value->H} {W:World} {base:Nat} {sp:Nat->Bool} {held:Bool} {v:Value} {d:DataW H} {ps:List MemPlace} {r:Reach} {b0:Nat}
 (hval:Value.okWide Tryz.prog W r b0 5 v) (hd:DataW.Trod enc Tryz.prog W base sp held 5 v d ps):∃n:Nat,n<256/\v=.int .u8 (n:Int)/\ps=[]:=by
 obtain⟨n,rfl⟩:=okWide_int Tryz.underlying5 hval
 obtain⟨fuel,hf⟩:=hd
 obtain⟨m,e,hx,hw⟩:=DataW.trod_int Tryz.underlying5 hf
 have hm:n=m:=by simpa [Value.cells] using e
 subst hm
 simp[Lit.wf,IntKind.min,IntKind.max,IntKind.signed,IntKind.bits] at hw
 simp only[Prod.mk.injEq] at hx
 exact⟨n.toNat,by omega,by rw[show((n.toNat:Nat):Int)=n by omega],hx.2⟩
theorem zkl (os:Os) (started:os.Started) (H:Type) (enc:TypeId×Value->H):
 ReturnsInHanded {} Tryz.checked os 3 .any (λw args=>(Rows.polygonPartsSpec.pre enc Tryz.prog Tryz.f3 [] false w args/\laidMetH Tryz.prog Rows.polygonPartsRow.laid w)/\sizedMet enc Tryz.prog Tryz.f3 (OpenSpec.ofChange Rows.polygonPartsSpec) false w args)
  (Rows.polygonPartsSpec.post enc Tryz.prog Tryz.f3 false true false false):=by
 refine zf9 (C:=Tryz.checked) (X:=λw _=>laidMetH Tryz.prog Rows.polygonPartsRow.laid w) (λ_ _ _ hh h=>h.of_heap hh) zrj started (by kernel_rfl) Tryz.func3
  (ChangeSpec.witness_shaped (enc:=enc) (C:=Tryz.checked) (os:=os) (X:=λw _=>laidMetH Tryz.prog Rows.polygonPartsRow.laid w) false (World.laidAll Tryz.prog os Rows.polygonPartsRow.laid)
    #[.agg #[.string ⟨#[]⟩,.string ⟨#[]⟩],.agg #[.string ⟨#[]⟩,.string ⟨#[]⟩],.agg #[.string ⟨#[]⟩,.string ⟨#[]⟩],.int .u8 0,.int .u8 0] 8 (World.laidAll_os _ _ _)
    (World.shaped_of_ZipB (by kernel_rfl) (by kernel_rfl)) (by kernel_rfl) (by kernel_rfl) (by kernel_rfl)
    (by rw[MakeChecks.laidMetH_plain _ _ _ (by kernel_rfl)];exact laidMet_laidAll _ (by kernel_rfl) (by kernel_rfl))) ?_
 intro W args ds gs before base hval0 hW hL hsh
 have hval:∀(j:Nat) t v,Tryz.f3.params[j]? =some t->args[j]? =some v->Value.okWide Tryz.prog W .any base t v:=hval0
 have hW':=hW
 obtain⟨p,q,hA0,hV,rfl,_,_⟩:=hW
 have hA:DataW.TrodAll enc Tryz.prog W 0 (λ_=>true) true Tryz.f3.params.toList args.toList ds p:=hA0
 rw[Tryz.params3] at hA hval
 obtain⟨v0,vs0,d0,ds0,p0,q0,e0,rfl,rfl,h0,hA⟩:=trodAll_cons hA
 obtain⟨v1,vs1,d1,ds1,p1,q1,rfl,rfl,rfl,h1,hA⟩:=trodAll_cons hA
 obtain⟨v2,vs2,d2,ds2,p2,q2,rfl,rfl,rfl,h2,hA⟩:=trodAll_cons hA
 obtain⟨v3,vs3,d3,ds3,p3,q3,rfl,rfl,rfl,h3,hA⟩:=trodAll_cons hA
 obtain⟨v4,vs4,d4,ds4,p4,q4,rfl,rfl,rfl,h4,hA⟩:=trodAll_cons hA
 obtain⟨rfl,rfl,rfl⟩:=trodAll_nil hA
 obtain rfl:args= #[v0,v1,v2,v3,v4]:=by cases args;simp_all
 obtain⟨rfl,rfl⟩:=trodVars_none hV
 obtain⟨x1,y1,rfl,rfl⟩:=zhe (hval 0 24 v0 rfl rfl) h0
 obtain⟨x2,y2,rfl,rfl⟩:=zhe (hval 1 24 v1 rfl rfl) h1
 obtain⟨x3,y3,rfl,rfl⟩:=zhe (hval 2 24 v2 rfl rfl) h2
 obtain⟨n,hn,rfl,rfl⟩:=zuh (hval 3 5 v3 rfl rfl) h3
 obtain⟨m,hm,rfl,rfl⟩:=zuh (hval 4 5 v4 rfl rfl) h4
 simp only[List.append_nil] at hW'
 have hM:laidMet Tryz.prog Rows.polygonPartsRow.laid W:=by rw[<-MakeChecks.laidMetH_plain _ _ _ (by kernel_rfl)];exact hL
 have hwd:Wd W:=z0v hM (.tail _ (.tail _ (.head _))) hsh
 have hpw:Pw W:=z0w hM (.tail _ (.tail _ (.tail _ (.tail _ (.tail _ (.tail _ (.head _)))))))
 refine(zyd x1 y1 x2 y2 x3 y3 n m hn hm W (hid λX hX=>zsh X (hid λY hY=>⟨hwd.below (hX.trans (hY.mono hX.size)),hpw.below (hX.trans (hY.mono hX.size))⟩)) hwd).mono λe W' ⟨he,hb⟩=>?_
 subst he
 have k:=λ{v:Value} {d:DataW H} (h:DataW.Trod enc Tryz.prog W 0 (λ_=>true) true 24 v d [])=>Below.trod zgh (by kernel_rfl) (of_decide_eq_true (by kernel_rfl)) h hb (λ_ h=>by cases h)
 have k5:=λ{v:Value} {d:DataW H} (h:DataW.Trod enc Tryz.prog W 0 (λ_=>true) true 5 v d [])=>Below.trod zgh (by kernel_rfl) (of_decide_eq_true (by kernel_rfl)) h hb (λ_ h=>by cases h)
 exact⟨_,rfl,_,_,_,[],[],[],hW',trodAll_mk1 (shut_bool Tryz.underlying4 _),trodAll_cons_mk (k h0) (trodAll_mk4 (k h1) (k h2) (k5 h3) (k5 h4)),rfl,hb.frame _,λh=>by cases h⟩
theorem jp_maps:mapsRowed Tryz.prog=true:=by kernel_rfl
theorem jp_tie:namedTie Tryz.prog Rows.polygonPartsRow.named Rows.polygonPartsSpec.vars=true:=by kernel_rfl
theorem jp_place:(Rows.polygonPartsRow.inPlace==Tryz.prog.inPlace 3)=true:=by kernel_rfl
theorem jp_unf:(Rows.polygonPartsRow.unfollowed==Tryz.prog.unfollowed 3)=true:=by kernel_rfl
theorem jp_rec:(Rows.polygonPartsRow.recurses==Tryz.prog.recurses 3)=true:=by kernel_rfl
theorem jp_named:(Rows.polygonPartsRow.named==Tryz.prog.varsNamed 3)=true:=by kernel_rfl
theorem jp_heard:Tryz.prog.stopsHeard=true:=by kernel_rfl
theorem jp_enter:Tryz.prog.mayEnter=true:=by kernel_rfl
theorem jp_lifted:(Rows.polygonPartsRow.lifted==Tryz.prog.liftsFinal)=true:=by kernel_rfl
theorem jp_make:(Tryz.prog.make==some Rows.polygonPartsRow.make)=true:=by kernel_rfl
theorem jp_keys:(Rows.polygonPartsRow.plainKeys==Tryz.prog.plainKeys)=true:=by kernel_rfl
theorem jp_func:Tryz.pinned.checked.prog.funcNamed Rows.polygonPartsRow.func=some 3:=by kernel_rfl
theorem jp_all:joinedFacts Tryz.prog 3 Tryz.f3 Rows.polygonPartsSpec Rows.polygonPartsRow=true:=by
 unfold joinedFacts
 simp only[Bool.and_eq_true]
 repeat' apply And.intro
 all_goals first|with_reducible exact zgh|with_reducible exact jp_maps|with_reducible exact jp_tie|with_reducible exact jp_place|with_reducible exact jp_unf|with_reducible exact jp_rec|with_reducible exact jp_named|with_reducible exact jp_heard|with_reducible exact jp_enter|with_reducible exact jp_lifted|with_reducible exact jp_make|with_reducible exact jp_keys|kernel_rfl
theorem zm7:Rows.PolygonPartsSaid:=
 OpenClaim.holds_of_wide 3 Tryz.f3 rfl rfl rfl rfl rfl rfl rfl ⟨rfl,rfl,rfl,rfl,rfl⟩ rfl rfl rfl rfl rfl jp_func Tryz.func3 jp_all
  (of_decide_eq_true (by kernel_rfl)) (by unfold Func.isWrapper;first|(rw[if_pos (by decide+kernel)];kernel_rfl)|(rw[if_neg (by decide+kernel)];exact⟨rfl,rfl⟩))
  (λos started H enc _=>zkl os started H enc)
end Go.Proofs.YtbjomkfgicffhaaGreatDoor
