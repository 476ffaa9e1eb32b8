/- vector.Dot, Cross, Scale of rational vectors. -/
import Derived.Test.YtccijmidbdapaaaGreatDoorI22
set_option maxRecDepth 100000
set_option maxHeartbeats 8000000
open Go.Proofs.Tryz renaming prog → zF
namespace Go.Proofs.YtccijmidbdapaaaGreatDoor
open Go.RowKit Go.Shelf Lib Str Limb
theorem zsb:∀args w,(callFunc 7 args).run zF w=.ok (.enter 7 args) w:=enters_of Tryz.func7 (by kernel_rfl) rfl
def sz3 (a b c:Rat) (k:Nat):Prop:=sz a k/\sz b k/\sz c k
theorem zf7 (a b c:Rat) (h:sz3 a b c 60) (w:World) (hw:Wd w):qJ 34 #[.agg #[St (numS a),St (numS b),St (numS c)]] w (.int .i64 0):=
 zgk _ _ _ (hid λV hV=>zfj a (zd0 (by omega) (by omega) h.1) V hV) (hid λV hV=>zfj b (zd0 (by omega) (by omega) h.2.1) V hV) (hid λV hV=>zfj c (zd0 (by omega) (by omega) h.2.2) V hV) w (hid hw)
theorem zlv (a b c d e f:Rat) (h:sz3 a b c 60) (h':sz3 d e f 60) (w:World) (hw:Wd w):qJ 103 #[.agg #[St (numS a),St (numS b),St (numS c)],.agg #[St (numS d),St (numS e),St (numS f)]] w (.int .i64 0):=
 zon _ _ _ _ _ _ w (hid λW hW=>zf7 a b c h W (hw.below hW)) (hid λW hW=>zf7 d e f h' W (hw.below hW))
theorem zho (a b c d e f:Rat) (h:sz3 a b c 60) (h':sz3 d e f 60) (w:World) (hw:Wd w):Calls zF 108 #[.agg #[St (numS a),St (numS b),St (numS c)],.agg #[St (numS d),St (numS e),St (numS f)],.func (.func 7) #[] #[]] w λe' w'=>e'=.returned (.tuple #[.agg #[St (numS (a*d)),St (numS (b*e)),St (numS (c*f))],.int .i64 0])/\Below w.heap.size w w':=
 zoo _ _ _ _ _ _ _ _ _ _ zsb w (hid λW hW=>zjf a d 60 60 (by omega) (by omega) (by omega) h.1 h'.1 W (hw.below hW)) (hid λW hW=>zjf b e 60 60 (by omega) (by omega) (by omega) h.2.1 h'.2.1 W (hw.below hW)) (hid λW hW=>zjf c f 60 60 (by omega) (by omega) (by omega) h.2.2 h'.2.2 W (hw.below hW))
theorem sz3.mono {a b c:Rat} {i j:Nat} (h:sz3 a b c i) (hij:i<=j):sz3 a b c j:=⟨h.1.mono hij,h.2.1.mono hij,h.2.2.mono hij⟩
theorem zs6 (a b c d e f:Rat) (h:sz3 a b c 30) (h':sz3 d e f 30) (w:World) (hw:Wd w):Calls zF 58 #[.agg #[St (numS a),St (numS b),St (numS c)],.agg #[St (numS d),St (numS e),St (numS f)]] w λe' w'=>e'=.returned (.tuple #[St (numS (a*d+b*e+c*f)),.int .i64 0])/\Below w.heap.size w w':=
 zll _ _ _ _ _ _ _ w (hid λW hW=>zlv a b c d e f (h.mono (by omega)) (h'.mono (by omega)) W (hw.below hW))
  (hid λW hW=>zqa _ _ _ _ _ _ _ _ _ (numS (a*d+b*e)) _ W (hid λV hV=>zho a b c d e f (h.mono (by omega)) (h'.mono (by omega)) V ((hw.below hW).below hV))
    (hid λV hV=>zje (a*d) (b*e) 60 60 (by omega) (by omega) (by omega) (zca h.1 h'.1) (zca h.2.1 h'.2.1) V ((hw.below hW).below hV))
    (hid λV hV=>zje (a*d+b*e) (c*f) 121 60 (by omega) (by omega) (by omega) (zk0 (zca h.1 h'.1) (zca h.2.1 h'.2.1)) (zca h.2.2 h'.2.2) V ((hw.below hW).below hV)))
theorem zgs (a b c d e f:Rat) (h:sz3 a b c 30) (h':sz3 d e f 30) (w:World) (hw:Wd w):Calls zF 57 #[.agg #[St (numS a),St (numS b),St (numS c)],.agg #[St (numS d),St (numS e),St (numS f)]] w λe' w'=>e'=.returned (.tuple #[.agg #[St (numS (b*f-c*e)),St (numS (c*d-a*f)),St (numS (a*e-b*d))],.int .i64 0])/\Below w.heap.size w w':=
 zjm _ _ _ _ _ _ _ _ _ w (hid λW hW=>zlv a b c d e f (h.mono (by omega)) (h'.mono (by omega)) W (hw.below hW))
  (hid λW hW=>by
    have M:∀(x y:Rat),sz x 30->sz y 30->Hid (∀V:World,qL W V->qJ 7 #[St (numS x),St (numS y)] V (.tuple #[St (numS (x*y)),.int .i64 0])):=λx y hx hy=>hid λV hV=>zjf x y 30 30 (by omega) (by omega) (by omega) hx hy V ((hw.below hW).below hV)
    have S:∀(x y z t:Rat),sz x 30->sz y 30->sz z 30->sz t 30->Hid (∀V:World,qL W V->qJ 14 #[St (numS (x*y)),St (numS (z*t))] V (.tuple #[St (numS (x*y-z*t)),.int .i64 0])):=λx y z t hx hy hz ht=>hid λV hV=>ztz (x*y) (z*t) 60 60 (by omega) (by omega) (by omega) (zca hx hy) (zca hz ht) V ((hw.below hW).below hV)
    exact zm3 _ _ _ _ _ _ _ _ _ _ _ _ _ _ _ W (M b f h.2.1 h'.2.2) (M c e h.2.2 h'.2.1) (S b f c e h.2.1 h'.2.2 h.2.2 h'.2.1) (M c d h.2.2 h'.1) (M a f h.1 h'.2.2) (S c d a f h.2.2 h'.1 h.1 h'.2.2) (M a e h.1 h'.2.1) (M b d h.2.1 h'.1) (S a e b d h.1 h'.2.1 h.2.1 h'.1))
theorem zf8 (a b c x:Rat) (h:sz3 a b c 60) (hx:sz x 60) (w:World) (hw:Wd w):Calls zF 60 #[.agg #[St (numS a),St (numS b),St (numS c)],St (numS x)] w λe' w'=>e'=.returned (.tuple #[.agg #[St (numS (a*x)),St (numS (b*x)),St (numS (c*x))],.int .i64 0])/\Below w.heap.size w w':=
 zj3 _ _ _ _ _ _ _ w (hid λW hW=>zf7 a b c h W (hw.below hW)) (hid λW hW=>zfj x (zd0 (by omega) (by omega) hx) W (hw.below hW)) (hid λW hW=>zho a b c x x x h ⟨hx,hx,hx⟩ W (hw.below hW))
end Go.Proofs.YtccijmidbdapaaaGreatDoor
