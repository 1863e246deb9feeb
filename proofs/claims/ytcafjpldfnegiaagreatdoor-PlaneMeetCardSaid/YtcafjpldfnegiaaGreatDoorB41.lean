/- A part of the proof that the law returns true for every input: an executor for the model's code, and what functions of the program compute. -/
import Derived.Test.YtcafjpldfnegiaaGreatDoorB06
import Derived.Test.YtcafjpldfnegiaaGreatDoorB11
import Derived.Test.YtcafjpldfnegiaaGreatDoorB15
import Derived.Test.YtcafjpldfnegiaaGreatDoorB22
import Derived.Test.YtcafjpldfnegiaaGreatDoorB40
import Derived.KernelRfl
import Derived.RangeFuncNested
import Derived.RangeFuncBound
import Derived.RangeFuncCalls
import Derived.RangeFuncLeaves
import Derived.Shelf.Abstract
import Derived.Shelf.RegionOpen
import Derived.WalkKit
import Derived.OwnWalkIn
import Derived.TacticsInMore
import Derived.LoopNIn
import Derived.LoopIn
open Go
namespace Go.Fw
set_option maxRecDepth 100000
structure VN where
 x:RN
 y:RN
 z:RN
namespace VN
def c(v:VN):CV:=z71 v.x v.y v.z
def raw(n:Nat)(v:VN):Bool:=znj n v.x v.y v.z
def ok(v:VN):Bool:=ok3 v.x v.y v.z
def zero:VN:=⟨.zero,.zero,.zero⟩
theorem raw_mono{v:VN}{n m:Nat}(h:v.raw n=true)(hm:n≤m):v.raw m=true:=by
 obtain⟨hx,hy,hz⟩:=z0A.1 h
 exact z0A.2 ⟨RN.raw_mono hx hm,RN.raw_mono hy hm,RN.raw_mono hz hm⟩
end VN
structure V3 where
 x:K
 y:K
 z:K
def V3.c(v:V3):CV:=z4N v.x v.y v.z
def V3.sz(v:V3):Nat:=max v.x.sz (max v.y.sz v.z.sz)
noncomputable def toV(v:VN):Option V3:=match toO v.x,toO v.y,toO v.z with
 |some x,some y,some z=>some ⟨x,y,z⟩
 |_,_,_=>none
def ofV:Option V3→VN
 |none=> .zero
 |some v=>⟨.ofK v.x,.ofK v.y,.ofK v.z⟩
theorem zdC(o:Option V3):toV (ofV o)=o:=by
 cases o with
 |none=>unfold toV ofV VN.zero;simp only[z43]
 |some v=>unfold toV ofV;simp only[z7d]
theorem z79{v:VN}{k:V3}(h:toV v=some k):toO v.x=some k.x∧toO v.y=some k.y∧toO v.z=some k.z:=by
 unfold toV at h
 split at h
 · rename_i x y z h1 h2 h3
   injection h with h
   subst h
   exact⟨h1,h2,h3⟩
 · cases h
theorem z0o{v:VN}(h:toV v=none):v.ok=false:=by
 unfold toV at h
 split at h
 · cases h
 · rename_i hx
   refine zgb ?_
   cases e1:toO v.x with
   |none=>exact .inl rfl
   |some a=>
    cases e2:toO v.y with
    |none=>exact .inr (.inl rfl)
    |some b=>
     cases e3:toO v.z with
     |none=>exact .inr (.inr rfl)
     |some c=>exact(hx a b c e1 e2 e3).elim
theorem z5d{v:VN}{k:V3}(h:toV v=some k):v.ok=true:=by
 obtain⟨h1,h2,h3⟩:=z79 h
 show ok3 v.x v.y v.z=true
 unfold ok3
 rw[(z0L h1).1,(z0L h2).1,(z0L h3).1];rfl
theorem z4S{v:VN}{k:V3}(h:toV v=some k):v.c=k.c:=by
 obtain⟨h1,h2,h3⟩:=z79 h
 exact zmL h1 h2 h3
theorem z0q{v:VN}{k:V3}{n:Nat}(h:toV v=some k)(hr:v.raw n=true):k.x.sz≤n∧k.y.sz≤n∧k.z.sz≤n:=by
 obtain⟨h1,h2,h3⟩:=z79 h
 obtain⟨a,b,c⟩:=z0A.1 hr
 exact⟨z0M h1 a,z0M h2 b,z0M h3 c⟩
def vsz:Option V3→Nat
 |none=>0
 |some v=>v.sz
theorem z3z{o:Option V3}{n:Nat}(h:vsz o≤n):(ofV o).raw n=true:=by
 cases o with
 |none=>exact z0A.2 ⟨z16 (o:=none) (Nat.zero_le _),z16 (o:=none) (Nat.zero_le _),z16 (o:=none) (Nat.zero_le _)⟩
 |some v=>
  have h':max v.x.sz (max v.y.sz v.z.sz)≤n:=h
  exact z0A.2 ⟨RN.ofK_raw v.x (by omega),RN.ofK_raw v.y (by omega),RN.ofK_raw v.z (by omega)⟩
end Go.Fw
open Go IntKind
namespace Go.Fw
set_option maxRecDepth 100000
theorem zmZ(v:VN)(h1:(v.x.ok)=true)(h2:(v.y.ok)=true)(h3:(v.z.ok)=true)(s4_0:RN.raw 1000000 v.x=true)(s8_0:RN.raw 1000000 v.y=true)(s13_0:RN.raw 1000000 v.z=true):PCall P 99 [v.c] (.lit (.bool true)):=
 j3 (.r 4 ((z06 (v.x) s4_0).eqB h1) (.r 8 ((z06 (v.y) s8_0).eqB h2) (.r 13 ((z06 (v.z) s13_0).eqB h3) .nil))) (by kernel_rfl)
theorem zmC(v:VN)(h1:(v.x.ok)=true)(h2:(v.y.ok)=true)(h3:(v.z.ok)=false)(s4_0:RN.raw 1000000 v.x=true)(s8_0:RN.raw 1000000 v.y=true)(s13_0:RN.raw 1000000 v.z=true):PCall P 99 [v.c] (.lit (.bool false)):=
 j3 (.r 4 ((z06 (v.x) s4_0).eqB h1) (.r 8 ((z06 (v.y) s8_0).eqB h2) (.r 13 ((z06 (v.z) s13_0).eqB h3) .nil))) (by kernel_rfl)
theorem zns(v:VN)(h1:(v.x.ok)=true)(h2:(v.y.ok)=false)(s4_0:RN.raw 1000000 v.x=true)(s8_0:RN.raw 1000000 v.y=true):PCall P 99 [v.c] (.lit (.bool false)):=
 j3 (.r 4 ((z06 (v.x) s4_0).eqB h1) (.r 8 ((z06 (v.y) s8_0).eqB h2) .nil)) (by kernel_rfl)
theorem zm1(v:VN)(h1:(v.x.ok)=false)(s4_0:RN.raw 1000000 v.x=true):PCall P 99 [v.c] (.lit (.bool false)):=
 j3 (.r 4 ((z06 (v.x) s4_0).eqB h1) .nil) (by kernel_rfl)
theorem zhd(x y z:K)(s4_0:x.sz≤1000000)(s8_0:y.sz≤1000000)(s13_0:z.sz≤1000000):PCall P 99 [z4N x y z] (.lit (.bool true)):=
 j3 (.r 4 (z0i (x) s4_0) (.r 8 (z0i (y) s8_0) (.r 13 (z0i (z) s13_0) .nil))) (by kernel_rfl)
end Go.Fw
open Go
namespace Go.Fw
set_option maxRecDepth 100000
theorem z1Y(v:VN)(h:v.raw 1000000=true):PCall P 99 [v.c] (.lit (.bool v.ok)):=by
 obtain⟨hx,hy,hz⟩:=z0A.1 h
 unfold VN.ok ok3
 cases ex:v.x.ok
 · exact zm1 v ex hx
 · cases ey:v.y.ok
   · exact zns v ex ey hx hy
   · cases ez:v.z.ok
     · exact zmC v ex ey ez hx hy hz
     · exact zmZ v ex ey ez hx hy hz
theorem z5V(x y z:K)(hx:x.sz≤1000000)(hy:y.sz≤1000000)(hz:z.sz≤1000000):PCall P 99 [z4N x y z] (.lit (.bool true)):=zhd x y z hx hy hz
end Go.Fw
open Go IntKind
namespace Go.Fw
set_option maxRecDepth 100000
theorem ziX(v w:VN)(g:v.ok=false)(s4_0:VN.raw 1000000 v=true):PCall P 64 [v.c,w.c] z0s:=
 j3 (.r 4 ((z1Y (v) s4_0).eqB g) (.c (lq 30 30) .nil)) (by kernel_rfl)
theorem zhv(v w:VN)(g:v.ok=true)(g2:w.ok=false)(s4_0:VN.raw 1000000 v=true)(s8_0:VN.raw 1000000 w=true):PCall P 64 [v.c,w.c] z0s:=
 j3 (.r 4 ((z1Y (v) s4_0).eqB g) (.r 8 ((z1Y (w) s8_0).eqB g2) (.c (lq 30 30) .nil))) (by kernel_rfl)
theorem ziw(x y z x' y' z':K)(s4_0:x.sz≤1000000)(s4_1:y.sz≤1000000)(s4_2:z.sz≤1000000)(s8_0:x'.sz≤1000000)(s8_1:y'.sz≤1000000)(s8_2:z'.sz≤1000000)(s16_0:x.sz≤1000000)(s16_1:x'.sz≤1000000)(s21_0:y.sz≤1000000)(s21_1:y'.sz≤1000000)(s26_0:z.sz≤1000000)(s26_1:z'.sz≤1000000):PCall P 64 [z4N x y z,z4N x' y' z'] (z4N (x+x') (y+y') (z+z')):=
 j3 (.r 4 (z5V (x) (y) (z) s4_0 s4_1 s4_2) (.r 8 (z5V (x') (y') (z') s8_0 s8_1 s8_2) (.r 16 (z6n (x) (x') s16_0 s16_1) (.r 21 (z6n (y) (y') s21_0 s21_1) (.r 26 (z6n (z) (z') s26_0 s26_1) (.c (lq 30 30) .nil)))))) (by kernel_rfl)
theorem zj7(v:VN)(k:RN)(g:v.ok=false)(s4_0:VN.raw 1000000 v=true):PCall P 65 [v.c,k.c] z0s:=
 j3 (.r 4 ((z1Y (v) s4_0).eqB g) (.c (lq 30 30) .nil)) (by kernel_rfl)
theorem zjj(v:VN)(k:RN)(g:v.ok=true)(g2:k.ok=false)(s4_0:VN.raw 1000000 v=true)(s8_0:RN.raw 1000000 k=true):PCall P 65 [v.c,k.c] z0s:=
 j3 (.r 4 ((z1Y (v) s4_0).eqB g) (.r 8 ((z06 (k) s8_0).eqB g2) (.c (lq 30 30) .nil))) (by kernel_rfl)
theorem zjm(x y z k:K)(s4_0:x.sz≤1000000)(s4_1:y.sz≤1000000)(s4_2:z.sz≤1000000)(s8_0:k.sz≤1000000)(s15_0:x.sz≤1000000)(s15_1:k.sz≤1000000)(s19_0:y.sz≤1000000)(s19_1:k.sz≤1000000)(s23_0:z.sz≤1000000)(s23_1:k.sz≤1000000):PCall P 65 [z4N x y z,Z0 k] (z4N (x*k) (y*k) (z*k)):=
 j3 (.r 4 (z5V (x) (y) (z) s4_0 s4_1 s4_2) (.r 8 (z0i (k) s8_0) (.r 15 (z54 (x) (k) s15_0 s15_1) (.r 19 (z54 (y) (k) s19_0 s19_1) (.r 23 (z54 (z) (k) s23_0 s23_1) (.c (lq 30 30) .nil)))))) (by kernel_rfl)
theorem zcr(v w:VN)(g:v.ok=false)(s4_0:VN.raw 1000000 v=true):PCall P 173 [v.c,w.c] (.agg z0b):=
 j3 (.r 4 ((z1Y (v) s4_0).eqB g) (.c (lq 10 10) .nil)) (by kernel_rfl)
theorem zcb(v w:VN)(g:v.ok=true)(g2:w.ok=false)(s4_0:VN.raw 1000000 v=true)(s8_0:VN.raw 1000000 w=true):PCall P 173 [v.c,w.c] (.agg z0b):=
 j3 (.r 4 ((z1Y (v) s4_0).eqB g) (.r 8 ((z1Y (w) s8_0).eqB g2) (.c (lq 10 10) .nil))) (by kernel_rfl)
theorem zcI(x y z x' y' z':K)(s4_0:x.sz≤1000000)(s4_1:y.sz≤1000000)(s4_2:z.sz≤1000000)(s8_0:x'.sz≤1000000)(s8_1:y'.sz≤1000000)(s8_2:z'.sz≤1000000)(s16_0:x.sz≤1000000)(s16_1:x'.sz≤1000000)(s21_0:y.sz≤1000000)(s21_1:y'.sz≤1000000)(s22_0:(x*x').sz≤1000000)(s22_1:(y*y').sz≤1000000)(s27_0:z.sz≤1000000)(s27_1:z'.sz≤1000000)(s28_0:(x*x'+y*y').sz≤1000000)(s28_1:(z*z').sz≤1000000):PCall P 173 [z4N x y z,z4N x' y' z'] (Z0 (x*x'+y*y'+z*z')):=
 j3 (.r 4 (z5V (x) (y) (z) s4_0 s4_1 s4_2) (.r 8 (z5V (x') (y') (z') s8_0 s8_1 s8_2) (.r 16 (z54 (x) (x') s16_0 s16_1) (.r 21 (z54 (y) (y') s21_0 s21_1) (.r 22 (z6n (x*x') (y*y') s22_0 s22_1) (.r 27 (z54 (z) (z') s27_0 s27_1) (.r 28 (z6n (x*x'+y*y') (z*z') s28_0 s28_1) (.c (lq 10 10) .nil)))))))) (by kernel_rfl)
theorem zkw(v w:VN)(g:v.ok=false)(s4_0:VN.raw 1000000 v=true):PCall P 172 [v.c,w.c] z0s:=
 j3 (.r 4 ((z1Y (v) s4_0).eqB g) (.c (lq 30 30) .nil)) (by kernel_rfl)
theorem zjv(v w:VN)(g:v.ok=true)(g2:w.ok=false)(s4_0:VN.raw 1000000 v=true)(s8_0:VN.raw 1000000 w=true):PCall P 172 [v.c,w.c] z0s:=
 j3 (.r 4 ((z1Y (v) s4_0).eqB g) (.r 8 ((z1Y (w) s8_0).eqB g2) (.c (lq 30 30) .nil))) (by kernel_rfl)
theorem zhN(a b c d:K)(s7_0:a.sz≤1000000)(s7_1:d.sz≤1000000)(s10_0:b.sz≤1000000)(s10_1:c.sz≤1000000)(s11_0:(a*d).sz≤1000000)(s11_1:(b*c).sz≤1000000):PCall P 223 [Z0 a,Z0 b,Z0 c,Z0 d] (Z0 (a*d-b*c)):=
 j3 (.r 7 (z54 (a) (d) s7_0 s7_1) (.r 10 (z54 (b) (c) s10_0 s10_1) (.r 11 (zmY (a*d) (b*c) s11_0 s11_1) (.c (lq 10 10) .nil)))) (by kernel_rfl)
theorem ziF(a b c:Int)(s2_0:(-9223372036854775808:Int)≤a∧a≤9223372036854775807)(s4_0:(-9223372036854775808:Int)≤b∧b≤9223372036854775807)(s6_0:(-9223372036854775808:Int)≤c∧c≤9223372036854775807):PCall P 63 [j6 a,j6 b,j6 c] (z4N (K.ofInt a) (K.ofInt b) (K.ofInt c)):=
 j3 (.r 2 (z3W (a) s2_0) (.r 4 (z3W (b) s4_0) (.r 6 (z3W (c) s6_0) (.c (lq 30 30) .nil)))) (by kernel_rfl)
end Go.Fw
open Go
namespace Go.Fw
set_option maxRecDepth 100000
namespace V3
def add(a b:V3):V3:=⟨a.x+b.x,a.y+b.y,a.z+b.z⟩
def sub(a b:V3):V3:=⟨a.x-b.x,a.y-b.y,a.z-b.z⟩
def neg(a:V3):V3:=⟨-a.x,-a.y,-a.z⟩
def scale(a:V3)(k:K):V3:=⟨a.x*k,a.y*k,a.z*k⟩
def dot(a b:V3):K:=a.x*b.x+a.y*b.y+a.z*b.z
def cross(a b:V3):V3:=⟨a.y*b.z-a.z*b.y,a.z*b.x-a.x*b.z,a.x*b.y-a.y*b.x⟩
end V3
def o2{α β γ:Type}(f:α→β→γ):Option α→Option β→Option γ
 |some a,some b=>some (f a b)
 |_,_=>none
noncomputable def z1b(v w:VN):VN:=ofV (o2 V3.add (toV v) (toV w))
noncomputable def J2(v:VN)(k:RN):VN:=ofV (o2 V3.scale (toV v) (toO k))
noncomputable def z7X(v w:VN):RN:=ofO (o2 V3.dot (toV v) (toV w))
noncomputable def J0(v w:VN):VN:=ofV (o2 V3.cross (toV v) (toV w))
theorem zcS(v w:VN)(hv:v.raw 1000000=true)(hw:w.raw 1000000=true):PCall P 64 [v.c,w.c] (z1b v w).c:=by
 unfold z1b
 cases ev:toV v with
 |none=>exact ziX v w (z0o ev) hv
 |some a=>
  cases ew:toV w with
  |none=>exact zhv v w (z5d ev) (z0o ew) hv hw
  |some b=>
   obtain⟨x,y,z⟩:=z0q ev hv
   obtain⟨x',y',z'⟩:=z0q ew hw
   rw[z4S ev,z4S ew]
   exact ziw _ _ _ _ _ _ x y z x' y' z' x x' y y' z z'
theorem z3R(v:VN)(k:RN)(hv:v.raw 1000000=true)(hk:k.raw 1000000=true):PCall P 65 [v.c,k.c] (J2 v k).c:=by
 unfold J2
 cases ev:toV v with
 |none=>exact zj7 v k (z0o ev) hv
 |some a=>
  cases ek:toO k with
  |none=>exact zjj v k (z5d ev) (U5 ek) hv hk
  |some b=>
   obtain⟨x,y,z⟩:=z0q ev hv
   have hb:=z0M ek hk
   rw[z4S ev,z9s (z0L ek).2]
   exact zjm _ _ _ _ x y z hb x hb y hb z hb
theorem zh4(v w:VN)(hv:v.raw 1000=true)(hw:w.raw 1000=true):PCall P 173 [v.c,w.c] (z7X v w).c:=by
 have hv':=VN.raw_mono hv (show 1000≤1000000 by decide)
 have hw':=VN.raw_mono hw (show 1000≤1000000 by decide)
 unfold z7X
 cases ev:toV v with
 |none=>exact zcr v w (z0o ev) hv'
 |some a=>
  cases ew:toV w with
  |none=>exact zcb v w (z5d ev) (z0o ew) hv' hw'
  |some b=>
   obtain⟨x,y,z⟩:=z0q ev hv
   obtain⟨x',y',z'⟩:=z0q ew hw
   have m1:=K.sz_mul a.x b.x
   have m2:=K.sz_mul a.y b.y
   have m3:=K.sz_mul a.z b.z
   have m4:=K.sz_add (a.x*b.x) (a.y*b.y)
   rw[z4S ev,z4S ew]
   exact zcI _ _ _ _ _ _ (by omega) (by omega) (by omega) (by omega) (by omega) (by omega) (by omega) (by omega) (by omega) (by omega) (by omega) (by omega) (by omega) (by omega) (by omega) (by omega)
theorem z9F(a b c d:K)(ha:a.sz≤100000)(hb:b.sz≤100000)(hc:c.sz≤100000)(hd:d.sz≤100000):PCall P 223 [Z0 a,Z0 b,Z0 c,Z0 d] (Z0 (a*d-b*c)):=by
 have m1:=K.sz_mul a d
 have m2:=K.sz_mul b c
 exact zhN a b c d (by omega) (by omega) (by omega) (by omega) (by omega) (by omega)
end Go.Fw
open Go IntKind
namespace Go.Fw
set_option maxRecDepth 100000
theorem zic(x y z x' y' z':K)(s4_0:x.sz≤1000000)(s4_1:y.sz≤1000000)(s4_2:z.sz≤1000000)(s8_0:x'.sz≤1000000)(s8_1:y'.sz≤1000000)(s8_2:z'.sz≤1000000)(s20_0:y.sz≤100000)(s20_1:z.sz≤100000)(s20_2:y'.sz≤100000)(s20_3:z'.sz≤100000)(s29_0:z.sz≤100000)(s29_1:x.sz≤100000)(s29_2:z'.sz≤100000)(s29_3:x'.sz≤100000)(s38_0:x.sz≤100000)(s38_1:y.sz≤100000)(s38_2:x'.sz≤100000)(s38_3:y'.sz≤100000):PCall P 172 [z4N x y z,z4N x' y' z'] (z4N (y*z'-z*y') (z*x'-x*z') (x*y'-y*x')):=
 j3 (.r 4 (z5V (x) (y) (z) s4_0 s4_1 s4_2) (.r 8 (z5V (x') (y') (z') s8_0 s8_1 s8_2) (.r 20 (z9F (y) (z) (y') (z') s20_0 s20_1 s20_2 s20_3) (.r 29 (z9F (z) (x) (z') (x') s29_0 s29_1 s29_2 s29_3) (.r 38 (z9F (x) (y) (x') (y') s38_0 s38_1 s38_2 s38_3) (.c (lq 30 30) .nil)))))) (by kernel_rfl)
end Go.Fw
open Go IntKind
namespace Go.Fw
set_option maxRecDepth 100000
theorem zk0(x y:RN)(g:x.ok=false)(s4_0:RN.raw 1000000 x=true):PCall P 137 [x.c,y.c] (.agg z0b):=
 j3 (.r 4 ((z1B (x) s4_0).eqB g) (.c (lq 10 10) .nil)) (by kernel_rfl)
theorem zkn(x y:RN)(g:x.ok=true)(g2:y.ok=false)(s4_0:RN.raw 1000000 x=true)(s8_0:RN.raw 1000000 y=true):PCall P 137 [x.c,y.c] (.agg z0b):=
 j3 (.r 4 ((z1B (x) s4_0).eqB g) (.r 8 ((z1B (y) s8_0).eqB g2) (.c (lq 10 10) .nil))) (by kernel_rfl)
theorem zj4(x y:RN)(g:x.ok=false)(s4_0:RN.raw 1000000 x=true):PCall P 136 [x.c,y.c] (.agg z0b):=
 j3 (.r 4 ((z1B (x) s4_0).eqB g) (.c (lq 10 10) .nil)) (by kernel_rfl)
theorem zhb(x y:RN)(g:x.ok=true)(g2:y.ok=false)(s4_0:RN.raw 1000000 x=true)(s8_0:RN.raw 1000000 y=true):PCall P 136 [x.c,y.c] (.agg z0b):=
 j3 (.r 4 ((z1B (x) s4_0).eqB g) (.r 8 ((z1B (y) s8_0).eqB g2) (.c (lq 10 10) .nil))) (by kernel_rfl)
theorem zjC(x:RN)(g:x.ok=false)(s3_0:RN.raw 1000000 x=true):PCall P 121 [x.c] (.agg z0b):=
 j3 (.r 3 ((z1B (x) s3_0).eqB g) (.c (lq 10 10) .nil)) (by kernel_rfl)
theorem zk6(x:RN)(g:x.ok=false)(s3_0:RN.raw 1000000 x=true):PCall P 146 [x.c] (.lit (.int .i64 0)):=
 j3 (.r 3 ((z1B (x) s3_0).eqB g) .nil) (by kernel_rfl)
theorem zhj(x y:RN)(g:x.ok=false)(s5_0:RN.raw 1000000 x=true):PCall P 147 [x.c,y.c] (.tup [.agg z0b,.lit (.int .i64 1)]):=
 j3 (.r 5 ((z1B (x) s5_0).eqB g) (.c (lq 10 10) .nil)) (by kernel_rfl)
theorem zku(x y:RN)(g:x.ok=true)(g2:y.ok=false)(s5_0:RN.raw 1000000 x=true)(s9_0:RN.raw 1000000 y=true):PCall P 147 [x.c,y.c] (.tup [.agg z0b,.lit (.int .i64 1)]):=
 j3 (.r 5 ((z1B (x) s5_0).eqB g) (.r 9 ((z1B (y) s9_0).eqB g2) (.c (lq 10 10) .nil))) (by kernel_rfl)
end Go.Fw
open Go
namespace Go.Fw
set_option maxRecDepth 100000
theorem z49(v w:VN)(hv:v.raw 1000=true)(hw:w.raw 1000=true):PCall P 172 [v.c,w.c] (J0 v w).c:=by
 have hv':=VN.raw_mono hv (show 1000≤1000000 by decide)
 have hw':=VN.raw_mono hw (show 1000≤1000000 by decide)
 unfold J0
 cases ev:toV v with
 |none=>exact zkw v w (z0o ev) hv'
 |some a=>
  cases ew:toV w with
  |none=>exact zjv v w (z5d ev) (z0o ew) hv' hw'
  |some b=>
   obtain⟨x,y,z⟩:=z0q ev hv
   obtain⟨x',y',z'⟩:=z0q ew hw
   rw[z4S ev,z4S ew]
   refine zic _ _ _ _ _ _ ?_ ?_ ?_ ?_ ?_ ?_ ?_ ?_ ?_ ?_ ?_ ?_ ?_ ?_ ?_ ?_ ?_ ?_<;>omega
theorem zab(x y:RN)(hx:x.raw 1000000=true)(hy:y.raw 1000000=true):PCall P 137 [x.c,y.c] (z3c x y).c:=by
 unfold z3c
 cases ex:toO x with
 |none=>exact zk0 x y (U5 ex) hx
 |some k=>
  cases ey:toO y with
  |none=>exact zkn x y (z0L ex).1 (U5 ey) hx hy
  |some l=>
   have a:=z0M ex hx
   have b:=z0M ey hy
   rw[z9s (z0L ex).2,z9s (z0L ey).2]
   exact z70 k l (by omega)
theorem z56(x y:RN)(hx:x.raw 1000000=true)(hy:y.raw 1000000=true):PCall P 136 [x.c,y.c] (z2D x y).c:=by
 unfold z2D
 cases ex:toO x with
 |none=>exact zj4 x y (U5 ex) hx
 |some k=>
  cases ey:toO y with
  |none=>exact zhb x y (z0L ex).1 (U5 ey) hx hy
  |some l=>
   have a:=z0M ex hx
   have b:=z0M ey hy
   rw[z9s (z0L ex).2,z9s (z0L ey).2]
   exact z5K k l (by omega)
theorem zax(x:RN)(hx:x.raw 1000000=true):PCall P 121 [x.c] (z5y x).c:=by
 unfold z5y
 cases ex:toO x with
 |none=>exact zjC x (U5 ex) hx
 |some k=>
  have a:=z0M ex hx
  rw[z9s (z0L ex).2]
  exact zaz k (by simp only[Smk];omega)
end Go.Fw
open Go IntKind
namespace Go.Fw
set_option maxRecDepth 100000
theorem zly(a b c:Int)(h1:(a==b)=true):PCall P 208 [j6 a,j6 b,j6 c] (.lit (.int .i64 a)):=
 j3 (.b 4 h1 .nil) (by kernel_rfl)
theorem zow(a b c:Int)(h1:(a==b)=false)(h2:(b==0)=true):PCall P 208 [j6 a,j6 b,j6 c] (.lit (.int .i64 a)):=
 j3 (.b 4 h1 (.b 9 h2 .nil)) (by kernel_rfl)
theorem zoh(a b c:Int)(h1:(a==b)=false)(h2:(b==0)=false)(h3:(a==0)=true):PCall P 208 [j6 a,j6 b,j6 c] (.lit (.int .i64 b)):=
 j3 (.b 4 h1 (.b 9 h2 (.b 13 h3 .nil))) (by kernel_rfl)
theorem zno(a b c:Int)(h1:(a==b)=false)(h2:(b==0)=false)(h3:(a==0)=false):PCall P 208 [j6 a,j6 b,j6 c] (.lit (.int .i64 (i64.wrap (a*c)))):=
 j3 (.b 4 h1 (.b 9 h2 (.b 13 h3 .nil))) (by kernel_rfl)
theorem zna(k a b:Int)(s4_0:(-9223372036854775808:Int)≤k∧k≤9223372036854775807)(s7_0:SmlZ a)(s7_1:SmlZ b)(s7_2:Sml (a.natAbs*b.natAbs))(s8_0:SmlZ k)(s8_1:SmlZ (a*b))(s8_2:Sml (k.natAbs*(a*b).natAbs)):PCall P 210 [j6 k,J7 a,J7 b] (.agg [.lit (.bool (decide (k*(a*b)<0))),.lit (.string (bytesOf (k*(a*b)).natAbs))]):=
 j3 (.r 4 (z1r (k) s4_0) (.r 7 (z05 (a) (b) s7_0 s7_1 s7_2) (.r 8 (z05 (k) (a*b) s8_0 s8_1 s8_2) (.c (lq 2 2) .nil)))) (by kernel_rfl)
end Go.Fw
open Go
namespace Go.Fw
set_option maxRecDepth 100000
def z5g(a b c:Int):Int:=if a=b∨b=0 then a else if a=0 then b else a*c
theorem z2M(a b c:Int)(ha: -1≤a∧a≤1)(hc: -1≤c∧c≤1):PCall P 208 [j6 a,j6 b,j6 c] (j6 (z5g a b c)):=by
 unfold z5g
 by_cases h1:a=b
 · rw[if_pos (.inl h1)]
   exact zly a b c (by simp[h1])
 · by_cases h2:b=0
   · rw[if_pos (.inr h2)]
     exact zow a b c (by simp[h1]) (by simp[h2])
   · rw[if_neg (by rintro(h|h)<;>contradiction)]
     by_cases h3:a=0
     · rw[if_pos h3]
       exact zoh a b c (by simp[h1]) (by simp[h2]) (by simp[h3])
     · rw[if_neg h3]
       have:=zno a b c (by simp[h1]) (by simp[h2]) (by simp[h3])
       have hw:IntKind.i64.wrap (a*c)=a*c:=by
        have:a= -1∨a=1:=by omega
        rcases this with h|h<;>rw[h]<;>exact w64 (by omega)
       rwa[hw]at this
theorem z9u(k a b:Int){n m:Nat}(hk: -100≤k∧k≤100)(ha:By n a)(hb:By m b)(hn:n+m+1<1073741824):PCall P 210 [j6 k,J7 a,J7 b] (J7 (k*(a*b))):=by
 have hk':By 1 k:=by unfold By;omega
 have hab:=ha.mul hb
 exact zna k a b (by omega) (ha.sml (by omega)) (hb.sml (by omega)) (ha.sm2 hb (by omega)) (hk'.sml (by decide)) (hab.sml (by omega)) (hk'.sm2 hab (by omega))
end Go.Fw
open Go IntKind
namespace Go.Fw
set_option maxRecDepth 100000
theorem zmd(a b:Int)(s5_0:SmlZ a)(s5_1:SmlZ b)(s5_2:Sml (a.natAbs+b.natAbs)):PCall P 246 [J7 a,J7 b] (.lit (.int .i64 (a-b).sign)):=
 j3 (.r 5 (za5 (a) (b) s5_0 s5_1 s5_2) (.r 6 (z0Z (a-b)) .nil)) (by kernel_rfl)
end Go.Fw
open Go
namespace Go.Fw
set_option maxRecDepth 100000
def Two(a b:Int):Prop:= ∃n,n≤500000000∧By n a∧By n b
theorem z2d(k a b:Int)(hk: -100≤k∧k≤100)(h:Two a b):PCall P 210 [j6 k,J7 a,J7 b] (J7 (k*(a*b))):=by
 obtain⟨n,hn,ha,hb⟩:=h
 exact z9u k a b hk ha hb (by omega)
theorem zca(a b:Int)(h:Two a b):PCall P 246 [J7 a,J7 b] (j6 (a-b).sign):=by
 obtain⟨n,hn,ha,hb⟩:=h
 exact zmd a b (ha.sml (by omega)) (hb.sml (by omega)) (ha.sma hb (by omega))
theorem zlu(a b:Int)(h:Two a b):PCall P 203 [J7 a,J7 b] (J7 (a*b)):=by
 obtain⟨n,hn,ha,hb⟩:=h
 exact z05 a b (ha.sml (by omega)) (hb.sml (by omega)) (ha.sm2 hb (by omega))
theorem zgs(a b:Int)(h:Two a b):PCall P 202 [J7 a,J7 b] (J7 (a+b)):=by
 obtain⟨n,hn,ha,hb⟩:=h
 exact z2n a b (ha.sml (by omega)) (hb.sml (by omega)) (ha.sma hb (by omega))
theorem zgJ(a b:Int)(h:Two a b):PCall P 209 [J7 a,J7 b] (J7 (a-b)):=by
 obtain⟨n,hn,ha,hb⟩:=h
 exact za5 a b (ha.sml (by omega)) (hb.sml (by omega)) (ha.sma hb (by omega))
end Go.Fw
open Go IntKind
namespace Go.Fw
set_option maxRecDepth 100000
theorem zoK(a b:Int)(s9_0:Two a a)(s12_0:(-100:Int)≤2∧(2:Int)≤100)(s12_1:Two b b)(s13_0:Two (a*a) ((2:Int)*(b*b)))(s14_0:(-1:Int)≤a.sign∧a.sign≤1)(s14_1:(-1:Int)≤(a*a-2*(b*b)).sign∧(a*a-2*(b*b)).sign≤1):PCall P 207 [J7 a,J7 b] (.lit (.int .i64 (z5g a.sign b.sign (a*a-2*(b*b)).sign))):=
 j3 (.r 4 (z0Z (a)) (.r 6 (z0Z (b)) (.r 9 (zlu (a) (a) s9_0) (.r 12 (z2d ((2:Int)) (b) (b) s12_0 s12_1) (.r 13 (zca (a*a) ((2:Int)*(b*b)) s13_0) (.r 14 (z2M (a.sign) (b.sign) ((a*a-2*(b*b)).sign) s14_0 s14_1) .nil)))))) (by kernel_rfl)
end Go.Fw
open Go
namespace Go.Fw
set_option maxRecDepth 100000
def sg2(a b:Int):Int:=z5g a.sign b.sign (a*a-2*(b*b)).sign
theorem z3H(a:Int): -1≤a.sign∧a.sign≤1:=by
 rcases Int.lt_trichotomy a 0 with h|h|h
 · rw[Int.sign_eq_neg_one_of_neg h];decide
 · rw[h];decide
 · rw[Int.sign_eq_one_of_pos h];decide
theorem zh2{a b c:Int}(ha: -1≤a∧a≤1)(hb: -1≤b∧b≤1)(hc: -1≤c∧c≤1): -1≤z5g a b c∧z5g a b c≤1:=by
 unfold z5g
 split
 · exact ha
 · split
   · exact hb
   · have:a= -1∨a=0∨a=1:=by omega
     rcases this with h|h|h<;>rw[h]<;>omega
theorem zaB(a b:Int): -1≤sg2 a b∧sg2 a b≤1:=zh2 (z3H a) (z3H b) (z3H _)
def z5B(a b:Int):Prop:= ∃n,n≤100000000∧By n a∧By n b
theorem By.two{a:Int}{n:Nat}(h:By n a):By (n+1) (2*a):=by
 have:By 1 2:=by unfold By;decide
 have:=this.mul h
 rwa[Nat.add_comm]at this
theorem z1d(a b:Int)(h:z5B a b):PCall P 207 [J7 a,J7 b] (j6 (sg2 a b)):=by
 obtain⟨n,hn,ha,hb⟩:=h
 exact zoK a b ⟨n,by omega,ha,ha⟩ (by decide) ⟨n,by omega,hb,hb⟩ ⟨n+n+1,by omega,(ha.mul ha).mono (by omega),(hb.mul hb).two⟩ (z3H _) (z3H _)
end Go.Fw
open Go IntKind
namespace Go.Fw
set_option maxRecDepth 100000
theorem zoi(x:K)(h1:(sg2 x.c0 x.c1==sg2 x.c2 x.c3)=true)(s3_0:Smk x)(s28_0:z5B x.c0 x.c1)(s31_0:z5B x.c2 x.c3)(s48_0:(-1:Int)≤sg2 x.c0 x.c1∧sg2 x.c0 x.c1≤1)(s48_1:(-1:Int)≤0∧(0:Int)≤1):PCall P 146 [Z0 x] (.lit (.int .i64 (z5g (sg2 x.c0 x.c1) (sg2 x.c2 x.c3) (0:Int)))):=
 j3 (.r 3 (z0d (x) s3_0) (.c (bq 0 4) (.c (bq 1 4) (.c (bq 2 4) (.c (bq 3 4) (.c (lq 2 2) (.c (lq 2 2) (.c (lq 2 2) (.c (lq 2 2) (.r 28 (z1d (x.c0) (x.c1) s28_0) (.r 31 (z1d (x.c2) (x.c3) s31_0) (.b 37 h1 (.r 48 (z2M (sg2 x.c0 x.c1) (sg2 x.c2 x.c3) ((0:Int)) s48_0 s48_1) .nil))))))))))))) (by kernel_rfl)
theorem zlI(x:K)(h1:(sg2 x.c0 x.c1==sg2 x.c2 x.c3)=false)(h2:(sg2 x.c2 x.c3==0)=true)(s3_0:Smk x)(s28_0:z5B x.c0 x.c1)(s31_0:z5B x.c2 x.c3)(s48_0:(-1:Int)≤sg2 x.c0 x.c1∧sg2 x.c0 x.c1≤1)(s48_1:(-1:Int)≤0∧(0:Int)≤1):PCall P 146 [Z0 x] (.lit (.int .i64 (z5g (sg2 x.c0 x.c1) (sg2 x.c2 x.c3) (0:Int)))):=
 j3 (.r 3 (z0d (x) s3_0) (.c (bq 0 4) (.c (bq 1 4) (.c (bq 2 4) (.c (bq 3 4) (.c (lq 2 2) (.c (lq 2 2) (.c (lq 2 2) (.c (lq 2 2) (.r 28 (z1d (x.c0) (x.c1) s28_0) (.r 31 (z1d (x.c2) (x.c3) s31_0) (.b 37 h1 (.b 41 h2 (.r 48 (z2M (sg2 x.c0 x.c1) (sg2 x.c2 x.c3) ((0:Int)) s48_0 s48_1) .nil)))))))))))))) (by kernel_rfl)
theorem zlf(x:K)(h1:(sg2 x.c0 x.c1==sg2 x.c2 x.c3)=false)(h2:(sg2 x.c2 x.c3==0)=false)(h3:(sg2 x.c0 x.c1==0)=true)(s3_0:Smk x)(s28_0:z5B x.c0 x.c1)(s31_0:z5B x.c2 x.c3)(s48_0:(-1:Int)≤sg2 x.c0 x.c1∧sg2 x.c0 x.c1≤1)(s48_1:(-1:Int)≤0∧(0:Int)≤1):PCall P 146 [Z0 x] (.lit (.int .i64 (z5g (sg2 x.c0 x.c1) (sg2 x.c2 x.c3) (0:Int)))):=
 j3 (.r 3 (z0d (x) s3_0) (.c (bq 0 4) (.c (bq 1 4) (.c (bq 2 4) (.c (bq 3 4) (.c (lq 2 2) (.c (lq 2 2) (.c (lq 2 2) (.c (lq 2 2) (.r 28 (z1d (x.c0) (x.c1) s28_0) (.r 31 (z1d (x.c2) (x.c3) s31_0) (.b 37 h1 (.b 41 h2 (.b 45 h3 (.r 48 (z2M (sg2 x.c0 x.c1) (sg2 x.c2 x.c3) ((0:Int)) s48_0 s48_1) .nil))))))))))))))) (by kernel_rfl)
theorem znk(x:K)(h1:(sg2 x.c0 x.c1==sg2 x.c2 x.c3)=false)(h2:(sg2 x.c2 x.c3==0)=false)(h3:(sg2 x.c0 x.c1==0)=false)(s3_0:Smk x)(s28_0:z5B x.c0 x.c1)(s31_0:z5B x.c2 x.c3)(s48_0:(-100:Int)≤1∧(1:Int)≤100)(s48_1:Two x.c0 x.c0)(s51_0:(-100:Int)≤2∧(2:Int)≤100)(s51_1:Two x.c1 x.c1)(s52_0:Two ((1:Int)*(x.c0*x.c0)) ((2:Int)*(x.c1*x.c1)))(s55_0:(-100:Int)≤3∧(3:Int)≤100)(s55_1:Two x.c2 x.c2)(s58_0:(-100:Int)≤6∧(6:Int)≤100)(s58_1:Two x.c3 x.c3)(s59_0:Two ((3:Int)*(x.c2*x.c2)) ((6:Int)*(x.c3*x.c3)))(s60_0:Two ((1:Int)*(x.c0*x.c0)+2*(x.c1*x.c1)) ((3:Int)*(x.c2*x.c2)+6*(x.c3*x.c3)))(s65_0:(-100:Int)≤2∧(2:Int)≤100)(s65_1:Two x.c0 x.c1)(s68_0:(-100:Int)≤6∧(6:Int)≤100)(s68_1:Two x.c2 x.c3)(s69_0:Two ((2:Int)*(x.c0*x.c1)) ((6:Int)*(x.c2*x.c3)))(s76_0:z5B ((1:Int)*(x.c0*x.c0)+2*(x.c1*x.c1)-((3:Int)*(x.c2*x.c2)+6*(x.c3*x.c3))) ((2:Int)*(x.c0*x.c1)-6*(x.c2*x.c3)))(s77_0:(-1:Int)≤sg2 x.c0 x.c1∧sg2 x.c0 x.c1≤1)(s77_1:(-1:Int)≤sg2 ((1:Int)*(x.c0*x.c0)+2*(x.c1*x.c1)-((3:Int)*(x.c2*x.c2)+6*(x.c3*x.c3))) ((2:Int)*(x.c0*x.c1)-6*(x.c2*x.c3))∧sg2 ((1:Int)*(x.c0*x.c0)+2*(x.c1*x.c1)-((3:Int)*(x.c2*x.c2)+6*(x.c3*x.c3))) ((2:Int)*(x.c0*x.c1)-6*(x.c2*x.c3))≤1):PCall P 146 [Z0 x] (.lit (.int .i64 (z5g (sg2 x.c0 x.c1) (sg2 x.c2 x.c3) (sg2 ((1:Int)*(x.c0*x.c0)+2*(x.c1*x.c1)-((3:Int)*(x.c2*x.c2)+6*(x.c3*x.c3))) ((2:Int)*(x.c0*x.c1)-6*(x.c2*x.c3)))))):=
 j3 (.r 3 (z0d (x) s3_0) (.c (bq 0 4) (.c (bq 1 4) (.c (bq 2 4) (.c (bq 3 4) (.c (lq 2 2) (.c (lq 2 2) (.c (lq 2 2) (.c (lq 2 2) (.r 28 (z1d (x.c0) (x.c1) s28_0) (.r 31 (z1d (x.c2) (x.c3) s31_0) (.b 37 h1 (.b 41 h2 (.b 45 h3 (.r 48 (z2d ((1:Int)) (x.c0) (x.c0) s48_0 s48_1) (.r 51 (z2d ((2:Int)) (x.c1) (x.c1) s51_0 s51_1) (.r 52 (zgs ((1:Int)*(x.c0*x.c0)) ((2:Int)*(x.c1*x.c1)) s52_0) (.r 55 (z2d ((3:Int)) (x.c2) (x.c2) s55_0 s55_1) (.r 58 (z2d ((6:Int)) (x.c3) (x.c3) s58_0 s58_1) (.r 59 (zgs ((3:Int)*(x.c2*x.c2)) ((6:Int)*(x.c3*x.c3)) s59_0) (.r 60 (zgJ ((1:Int)*(x.c0*x.c0)+2*(x.c1*x.c1)) ((3:Int)*(x.c2*x.c2)+6*(x.c3*x.c3)) s60_0) (.c (lq 2 2) (.r 65 (z2d ((2:Int)) (x.c0) (x.c1) s65_0 s65_1) (.r 68 (z2d ((6:Int)) (x.c2) (x.c3) s68_0 s68_1) (.r 69 (zgJ ((2:Int)*(x.c0*x.c1)) ((6:Int)*(x.c2*x.c3)) s69_0) (.c (lq 2 2) (.r 76 (z1d ((1:Int)*(x.c0*x.c0)+2*(x.c1*x.c1)-((3:Int)*(x.c2*x.c2)+6*(x.c3*x.c3))) ((2:Int)*(x.c0*x.c1)-6*(x.c2*x.c3)) s76_0) (.r 77 (z2M (sg2 x.c0 x.c1) (sg2 x.c2 x.c3) (sg2 ((1:Int)*(x.c0*x.c0)+2*(x.c1*x.c1)-((3:Int)*(x.c2*x.c2)+6*(x.c3*x.c3))) ((2:Int)*(x.c0*x.c1)-6*(x.c2*x.c3))) s77_0 s77_1) .nil)))))))))))))))))))))))))))) (by kernel_rfl)
end Go.Fw
open Go
namespace Go.Fw
set_option maxRecDepth 100000
section
variable{R:Type}[CR R][Sg R] {m:R}[im:Sg.Irr m]
theorem Adj.sg_mix(x:Adj R m):Adj.sg x=z5g (Sg.sg x.re) (Sg.sg x.im) (Sg.sg (Adj.nm x)):=by
 have hz:=Adj.nm_zero x
 rcases Sg.vals (Adj.nm x)with hn|hn|hn
 · -- the second part is the greater
   have hi:=Adj.im_ne hn
   have e:Adj.sg x=Sg.sg x.im:=by unfold Adj.sg;rw[hn,if_neg (by decide),if_pos rfl]
   rw[e,hn]
   unfold z5g
   rcases Sg.vals x.re with ha|ha|ha<;>rcases Sg.vals x.im with hb|hb|hb<;>rw[ha,hb]<;>first|rfl|exact absurd hb hi
 · have e:Adj.sg x=0:=by unfold Adj.sg;rw[hn,if_neg (by decide),if_neg (by decide)]
   have h0:=hz.1 hn
   have hr:Sg.sg x.re=0:=by rw[h0];exact(Sg.zero _).2 rfl
   have hi:Sg.sg x.im=0:=by rw[h0];exact(Sg.zero _).2 rfl
   rw[e,hr,hi];rfl
 · have hr:=Adj.re_ne hn
   have e:Adj.sg x=Sg.sg x.re:=by unfold Adj.sg;rw[hn,if_pos rfl]
   rw[e,hn]
   unfold z5g
   rcases Sg.vals x.re with ha|ha|ha<;>rcases Sg.vals x.im with hb|hb|hb<;>rw[ha,hb]<;>first|rfl|exact absurd ha hr
end
theorem zd5(a b:Int):sg2 a b=Adj.sg (⟨a,b⟩:Z2):=by
 rw[Adj.sg_mix];rfl
theorem z37{a b c c':Int}(h:a=b∨b=0∨a=0):z5g a b c=z5g a b c':=by
 unfold z5g
 rcases h with h|h|h
 · rw[if_pos (.inl h),if_pos (.inl h)]
 · rw[if_pos (.inr h),if_pos (.inr h)]
 · rw[if_pos h,if_pos h]
def zpp(x:K):Int:=z5g (sg2 x.c0 x.c1) (sg2 x.c2 x.c3) (sg2 (1*(x.c0*x.c0)+2*(x.c1*x.c1)-(3*(x.c2*x.c2)+6*(x.c3*x.c3))) (2*(x.c0*x.c1)-6*(x.c2*x.c3)))
theorem zdd(x:K):zpp x=K.sgn x:=by
 show _=Adj.sg (K.num x)
 rw[Adj.sg_mix]
 unfold zpp
 rw[zd5,zd5,zd5]
 show z5g _ _ _=z5g (Adj.sg (K.num x).re) (Adj.sg (K.num x).im) (Adj.sg (Adj.nm (K.num x)))
 congr 2
 refine Adj.ext ?_ ?_
 · show 1*(x.c0*x.c0)+2*(x.c1*x.c1)-(3*(x.c2*x.c2)+6*(x.c3*x.c3))=x.c0*x.c0+2*(x.c1*x.c1)-(3*(x.c2*x.c2+2*(x.c3*x.c3))+2*(0*(x.c2*x.c3+x.c3*x.c2)))
   grind
 · show 2*(x.c0*x.c1)-6*(x.c2*x.c3)=x.c0*x.c1+x.c1*x.c0-(3*(x.c2*x.c3+x.c3*x.c2)+0*(x.c2*x.c2+2*(x.c3*x.c3)))
   grind
end Go.Fw
open Go
namespace Go.Fw
set_option maxRecDepth 100000
theorem By.k{a k:Int}{n:Nat}(hk: -100≤k∧k≤100)(h:By n a):By (n+1) (k*a):=by
 have:By 1 k:=by unfold By;omega
 have:=this.mul h
 rwa[Nat.add_comm]at this
theorem By.sub{a b:Int}{n:Nat}(h:By n a)(k:By n b):By (n+1) (a-b):=by
 have:=h.add k.neg
 rwa[←Int.sub_eq_add_neg]at this
theorem zkc(x:K)(hx:x.sz≤10000000):PCall P 146 [Z0 x] (j6 (K.sgn x)):=by
 obtain⟨x0,x1,x2,x3,_⟩:=By.of_sz hx
 have hs:Smk x:=by simp only[Smk];omega
 have t01:z5B x.c0 x.c1:=⟨_,by decide,x0,x1⟩
 have t23:z5B x.c2 x.c3:=⟨_,by decide,x2,x3⟩
 have b1:=zaB x.c0 x.c1
 rw[←zdd]
 unfold zpp
 by_cases h1:sg2 x.c0 x.c1=sg2 x.c2 x.c3
 · rw[z37 (c':=0) (.inl h1)]
   exact zoi x (by simp[h1]) hs t01 t23 b1 (by decide)
 · by_cases h2:sg2 x.c2 x.c3=0
   · rw[z37 (c':=0) (.inr (.inl h2))]
     exact zlI x (beq_false_of_ne h1) (by simp[h2]) hs t01 t23 b1 (by decide)
   · by_cases h3:sg2 x.c0 x.c1=0
     · rw[z37 (c':=0) (.inr (.inr h3))]
       exact zlf x (beq_false_of_ne h1) (beq_false_of_ne h2) (by simp[h3]) hs t01 t23 b1 (by decide)
     · obtain⟨n,hn,hy⟩: ∃n,n≤10000000∧x.sz≤n:=⟨_,Nat.le_refl _,hx⟩
       obtain⟨y0,y1,y2,y3,_⟩:=By.of_sz hy
       have tw: ∀{a b:Int},By n a→By n b→Two a b:=fun ha hb=>⟨n,by omega,ha,hb⟩
       have q0:=(y0.mul y0).k (k:=1) (by decide)
       have q1:=(y1.mul y1).k (k:=2) (by decide)
       have q2:=(y2.mul y2).k (k:=3) (by decide)
       have q3:=(y3.mul y3).k (k:=6) (by decide)
       have r1:=(y0.mul y1).k (k:=2) (by decide)
       have r2:=(y2.mul y3).k (k:=6) (by decide)
       have u1:=q0.add q1
       have u2:=q2.add q3
       exact znk x (beq_false_of_ne h1) (beq_false_of_ne h2) (beq_false_of_ne h3) hs t01 t23 (by decide) (tw y0 y0) (by decide) (tw y1 y1) ⟨_,by omega,q0,q1⟩ (by decide) (tw y2 y2) (by decide) (tw y3 y3) ⟨_,by omega,q2,q3⟩ ⟨_,by omega,u1,u2⟩
        (by decide) (tw y0 y1) (by decide) (tw y2 y3) ⟨_,by omega,r1,r2⟩ ⟨_,by omega,u1.sub u2,(r1.sub r2).mono (Nat.le_succ _)⟩ b1 (zaB _ _)
noncomputable def z1y(x:RN):Int:=match toO x with
 |some k=>K.sgn k
 |none=>0
theorem z2i(x:RN)(hx:x.raw 1000000=true):PCall P 146 [x.c] (j6 (z1y x)):=by
 unfold z1y
 cases ex:toO x with
 |none=>exact zk6 x (U5 ex) hx
 |some k=>
  have a:=z0M ex hx
  rw[z9s (z0L ex).2]
  exact zkc k (by omega)
end Go.Fw
open Go Go.RowKit Go.Shelf Go.Proofs
namespace Go.Fw
section
variable{F:Fence}{n:Nat}{P:Program}{ops:Array Oper}{Q:Exit→Act→World→Prop}{a:Act}{w w':World}{rest:List Oper}{o:Oper}
theorem z09 {T : TypeId} {p : Operand} {d : Value} {v : Value} (hg : o.guard = none) (hop : o.op = .load T p) (hp : a.eval p = d) (hrun : (Instr.loadAt T d).run P w = .ok v w)
    (hk:wpListIn F n P ops Q rest (a.put o.dst v) w):wpListIn F n P ops Q (o::rest) a w:=by
 refine wpListIn_plain hg fun K hK=>?_
 refine⟨fun f hf=>?_,?_⟩
 · simp[Oper.about,hop]at hf
 · have hr:(execOp a.eval o).run P w= .ok (.value v) w:=by unfold execOp;rw[hop];simp only[hp];simp[hrun]
   rw[Oper.semAt_eq _ _ _ (by simp[hop]),hr]
   exact hK _ _ hk
theorem z3l {T : TypeId} {p : Operand} {d : Value} {v : Value} (hg : Region.wanted o (yielded ops a.tmps) = true) (hop : o.op = .load T p) (hp : a.eval p = d) (hrun : (Instr.loadAt T d).run P w = .ok v w)
    (hk:wpListIn F n P ops Q rest (a.put o.dst v) w):wpListIn F n P ops Q (o::rest) a w:=by
 refine wpListIn_step fun K hK=>?_
 rw[if_pos hg]
 refine⟨fun f hf=>?_,?_⟩
 · simp[Oper.about,hop]at hf
 · have hr:(execOp a.eval o).run P w= .ok (.value v) w:=by unfold execOp;rw[hop];simp only[hp];simp[hrun]
   rw[Oper.semAt_eq _ _ _ (by simp[hop]),hr]
   exact hK _ _ hk
theorem z2O {T : TypeId} {p x : Operand} {d v : Value} (hg : o.guard = none) (hop : o.op = .store T p x) (hp : a.eval p = d) (hx : a.eval x = v) (hrun : (Instr.storeAt T d v).run P w = .ok () w')
    (hk:wpListIn F n P ops Q rest (a.put o.dst undef) w'):wpListIn F n P ops Q (o::rest) a w:=by
 refine wpListIn_plain hg fun K hK=>?_
 refine⟨fun f hf=>?_,?_⟩
 · simp[Oper.about,hop]at hf
 · have hr:(execOp a.eval o).run P w= .ok .skip w':=by unfold execOp;rw[hop];simp only[hp,hx];simp[hrun]
   rw[Oper.semAt_eq _ _ _ (by simp[hop]),hr]
   exact hK _ _ hk
end
theorem z4m {T : TypeId} {fs : Array Field} {w : World} {b off : Nat} {c : Array Value} {t : TypeId} {fz : Nat × Nat} {v : Array Value} (hu : P.underlying T = some (.struct fs)) (hb : w.heap[b]? = some (.cells c t fz))
    (hv:v.toList=(c.toList.drop off).take (P.cellsOf T)) (hs:v.size=P.cellsOf T):(Instr.loadAt T (.pointer (some ⟨b,off,none⟩))).run P w= .ok (.agg v) w:=by
 obtain⟨y,h1,h2,_⟩:=z3t (P:=P) (w:=w) (off:=off) hb hu rfl hv (by simpa using hs) (fun h=>by cases h)
 rw[show Value.agg v=y by rw[h2 rfl]]
 simpa[Instr.loadAt,Instr.sureAddr]using h1
theorem z8C {T : TypeId} {i : TypeInfo} {w : World} {c v : Array Value} {t : TypeId} (hi : P.info? T = some i) (hs : v.size = P.cellsOf T) (hc : c.size = v.size) (ho : ∀ x ∈ v.toList, x.oneCell' = true) :
    (Instr.storeAt T (.pointer (some ⟨w.heap.size,0,none⟩)) (.agg v)).run P (w.alloc (.cells c t))= .ok () (w.alloc (.cells v t)):=by
 have hst:=run_storeCells_at P w.heap.size 0 t v.toList 0 c (w.alloc (.cells c t)) (World.alloc_heap_new w _) (by simp;omega) ho
 simp only[Nat.add_zero,List.take_zero,List.nil_append,Nat.zero_add]at hst
 have e:(w.alloc (.cells c t)).setRow w.heap.size (v.toList++c.toList.drop v.toList.length).toArray=w.alloc (.cells v t):=by
  rw[List.drop_of_length_le (by simp;omega),List.append_nil]
  show World.mk _ _ _ _ _=World.mk _ _ _ _ _
  refine congrArg (fun h=>World.mk h w.tape w.drawn w.os w.output) ?_
  show(w.heap.push (Obj.cells c t)).modify w.heap.size _=w.heap.push (Obj.cells v t)
  refine Array.ext (by simp) fun k h1 h2=>?_
  rw[Array.getElem_modify,Array.getElem_push,Array.getElem_push]
  simp at h1
  split
  · rename_i e
    subst e
    simp
  · rw[dif_pos (by omega),dif_pos (by omega)]
 rw[e]at hst
 simp[Instr.storeAt,Instr.sureAddr,storeVar,V7 hi,Value.cells,hs,hst]
end Go.Fw
