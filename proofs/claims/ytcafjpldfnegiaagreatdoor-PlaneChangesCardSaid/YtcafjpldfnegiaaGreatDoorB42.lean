/- A part of the proof that the law returns true for every input: an executor for the model's code, and what functions of the program compute. -/
import Derived.Test.YtcafjpldfnegiaaGreatDoorB11
import Derived.Test.YtcafjpldfnegiaaGreatDoorB15
import Derived.Test.YtcafjpldfnegiaaGreatDoorB22
import Derived.Test.YtcafjpldfnegiaaGreatDoorB41
import Derived.KernelRfl
open Go
namespace Go.Fw
set_option maxRecDepth 100000
theorem z0c{x:RN}{k:K}{n:Nat}(h:toO x=some k)(hx:x.raw n=true):k.sz≤n:=zsv (z0I h).2 hx
noncomputable def z3n(x y:RN):RN:=ofO (zsk (toO x) (toO y))
noncomputable def zfc(x y:RN):RN:=ofO (zss (toO x) (toO y))
noncomputable def z1Z(x y:RN):RN:=ofO (zsn (toO x) (toO y))
noncomputable def z4z(x:RN):RN:=ofO (zrk (toO x))
theorem zg4(x:RN):toO (z4z x)=zrk (toO x):=z7S _
theorem zpa(x y:RN)(hx:x.raw 1000000=true)(hy:y.raw 1000000=true):PCall P 37 [x.c,y.c] (z3n x y).c:=by
 unfold z3n
 cases ex:toO x with
 |none=>exact zlD x y (U4 ex) hx
 |some k=>
  cases ey:toO y with
  |none=>exact zkR x y (z0I ex).1 (U4 ey) hx hy
  |some l=>
   rw[z8B (z0I ex).2,z8B (z0I ey).2]
   exact z8o k l (z0c ex hx) (z0c ey hy)
theorem zaQ(x y:RN)(hx:x.raw 1000000=true)(hy:y.raw 1000000=true):PCall P 38 [x.c,y.c] (z1Z x y).c:=by
 unfold z1Z
 cases ex:toO x with
 |none=>exact zjC x y (U4 ex) hx
 |some k=>
  cases ey:toO y with
  |none=>exact zkJ x y (z0I ex).1 (U4 ey) hx hy
  |some l=>
   rw[z8B (z0I ex).2,z8B (z0I ey).2]
   exact z30 k l (z0c ex hx) (z0c ey hy)
theorem zaR(x:RN)(hx:x.raw 1000000=true):PCall P 41 [x.c] (z4z x).c:=by
 unfold z4z
 cases ex:toO x with
 |none=>exact zi7 x (U4 ex) hx
 |some k=>
  rw[z8B (z0I ex).2]
  exact z6W k (z0c ex hx)
theorem zrQ(x y:Option K):zsk x (zrk y)=zss x y:=by
 cases x<;>cases y<;>rfl
def oX(x y z:Option K)(t:Int)(b:Bool):Option K:=match x,y,z with
 |some x,some y,some _=>some (mvX x y t b)
 |_,_,_=>none
def oY(x y z:Option K)(t:Int)(b:Bool):Option K:=match x,y,z with
 |some x,some y,some _=>some (mvY x y t b)
 |_,_,_=>none
def oZ(x y z:Option K):Option K:=match x,y,z with
 |some _,some _,some z=>some z
 |_,_,_=>none
noncomputable def nX(x y z:RN)(t:Int)(b:Bool):RN:=ofO (oX (toO x) (toO y) (toO z) t b)
noncomputable def nY(x y z:RN)(t:Int)(b:Bool):RN:=ofO (oY (toO x) (toO y) (toO z) t b)
noncomputable def nZ(x y z:RN):RN:=ofO (oZ (toO x) (toO y) (toO z))
theorem zc6{x y z:RN}{k l m:K}(hx:toO x=some k)(hy:toO y=some l)(hz:toO z=some m):z2k x y z=z1l k l m:=by
 unfold z2k z1l
 rw[(z0I hx).2,(z0I hy).2,(z0I hz).2]
theorem z2s{x y z:RN}(h:toO x=none∨toO y=none∨toO z=none):ok3 x y z=false:=by
 unfold ok3
 rcases h with h|h|h<;>rw[U4 h]<;>simp
theorem zm9 (x y z : RN) (t : Int) (b : Bool) (ht : U1 t = true) (h : z46 100000 x y z = true) :
    PCall P 53 [z2k x y z,.agg [j6 t,.lit (.bool b)]] (z2k (nX x y z t b) (nY x y z t b) (nZ x y z)):=by
 unfold nX nY nZ
 obtain⟨hx,hy,hz⟩:=Y6.1 h
 have h6:z46 1000000 x y z=true:=Y6.2 ⟨RN.raw_mono hx (by decide),RN.raw_mono hy (by decide),RN.raw_mono hz (by decide)⟩
 cases ex:toO x with
 |none=>exact z7H x y z t b (z2s (.inl ex)) h6
 |some k=>
  cases ey:toO y with
  |none=>exact z7H x y z t b (z2s (.inr (.inl ey))) h6
  |some l=>
   cases ez:toO z with
   |none=>exact z7H x y z t b (z2s (.inr (.inr ez))) h6
   |some m=>
    rw[zc6 ex ey ez]
    have a:=z0c ex hx
    have b':=z0c ey hy
    have c:=z0c ez hz
    exact zia k l m t b ht (by omega) (by omega) (by omega)
theorem zq2 (x y z : RN) (t : Int) (b : Bool) (ht : U1 t = true) (h : z46 100000 x y z = true) :
    PCall P 54 [z2k x y z,.agg [j6 t,.lit (.bool b)]] (z2k (nX x y z t b) (nY x y z t b) (nZ x y z)):=by
 unfold nX nY nZ
 obtain⟨hx,hy,hz⟩:=Y6.1 h
 have h6:z46 1000000 x y z=true:=Y6.2 ⟨RN.raw_mono hx (by decide),RN.raw_mono hy (by decide),RN.raw_mono hz (by decide)⟩
 cases ex:toO x with
 |none=>exact z7Z x y z t b (z2s (.inl ex)) h6
 |some k=>
  cases ey:toO y with
  |none=>exact z7Z x y z t b (z2s (.inr (.inl ey))) h6
  |some l=>
   cases ez:toO z with
   |none=>exact z7Z x y z t b (z2s (.inr (.inr ez))) h6
   |some m=>
    rw[zc6 ex ey ez]
    exact zkX k l m t b ht (z0c ex hx) (z0c ey hy) (z0c ez hz)
abbrev rnB(x y:RN):Bool:=x.b0==y.b0&&(x.s0==y.s0&&true)&&(x.b1==y.b1&&(x.s1==y.s1&&true)&&(x.b2==y.b2&&(x.s2==y.s2&&true)&&(x.b3==y.b3&&(x.s3==y.s3&&true)&&true)))&&(x.b4==y.b4&&(x.s4==y.s4&&true)&&true)
theorem z3M{x y:RN}:rnB x y=true↔x=y:=by
 cases x
 cases y
 simp only[rnB,zhq,Bool.and_eq_true,beq_iff_eq,and_true,RN.mk.injEq,decide_eq_true_eq]
 constructor
 · rintro⟨⟨h0,h1,h2,h3⟩,h4⟩
   exact⟨h0.1,h0.2,h1.1,h1.2,h2.1,h2.2,h3.1,h3.2,h4.1,h4.2⟩
 · rintro⟨a,b,c,d,e,f,g,h,i,j⟩
   exact⟨⟨⟨a,b⟩,⟨c,d⟩,⟨e,f⟩,⟨g,h⟩⟩,i,j⟩
end Go.Fw
open Go
namespace Go.Fw
set_option maxRecDepth 100000
theorem z5O{x y:RN}{n:Nat}(hx:x.raw n=true)(hy:y.raw n=true):(z1Z x y).raw (n+n+1)=true:=by
 have h1:=z1B hx
 have h2:=z1B hy
 have h3:=zif (toO x) (toO y)
 exact z0N (by omega)
theorem zdy{x y:RN}{n:Nat}(hx:x.raw n=true)(hy:y.raw n=true):(z3n x y).raw (n+n+1)=true:=by
 have h1:=z1B hx
 have h2:=z1B hy
 have h3:=zjv (toO x) (toO y)
 exact z0N (by omega)
theorem z3S{x:RN}{n:Nat}(hx:x.raw n=true):(z4z x).raw n=true:=z0N (by rw[zhT];exact z1B hx)
end Go.Fw
open Go
namespace Go.Fw
set_option maxRecDepth 100000
structure VN where
 x:RN
 y:RN
 z:RN
namespace VN
def c(v:VN):CV:=z2k v.x v.y v.z
def raw(n:Nat)(v:VN):Bool:=z46 n v.x v.y v.z
def ok(v:VN):Bool:=ok3 v.x v.y v.z
def zero:VN:=⟨.zero,.zero,.zero⟩
theorem raw_mono{v:VN}{n m:Nat}(h:v.raw n=true)(hm:n≤m):v.raw m=true:=by
 obtain⟨hx,hy,hz⟩:=Y6.1 h
 exact Y6.2 ⟨RN.raw_mono hx hm,RN.raw_mono hy hm,RN.raw_mono hz hm⟩
end VN
structure V3 where
 x:K
 y:K
 z:K
def V3.c(v:V3):CV:=z1l v.x v.y v.z
def V3.sz(v:V3):Nat:=max v.x.sz (max v.y.sz v.z.sz)
noncomputable def toV(v:VN):Option V3:=match toO v.x,toO v.y,toO v.z with
 |some x,some y,some z=>some ⟨x,y,z⟩
 |_,_,_=>none
def ofV:Option V3→VN
 |none=> .zero
 |some v=>⟨.ofK v.x,.ofK v.y,.ofK v.z⟩
theorem zdU(o:Option V3):toV (ofV o)=o:=by
 cases o with
 |none=>unfold toV ofV VN.zero;simp only[z5D]
 |some v=>unfold toV ofV;simp only[z79]
theorem z7y{v:VN}{k:V3}(h:toV v=some k):toO v.x=some k.x∧toO v.y=some k.y∧toO v.z=some k.z:=by
 unfold toV at h
 split at h
 · rename_i x y z h1 h2 h3
   injection h with h
   subst h
   exact⟨h1,h2,h3⟩
 · cases h
theorem z36{v:VN}(h:toV v=none):v.ok=false:=by
 unfold toV at h
 split at h
 · cases h
 · rename_i hx
   refine z2s ?_
   cases e1:toO v.x with
   |none=>exact .inl rfl
   |some a=>
    cases e2:toO v.y with
    |none=>exact .inr (.inl rfl)
    |some b=>
     cases e3:toO v.z with
     |none=>exact .inr (.inr rfl)
     |some c=>exact(hx a b c e1 e2 e3).elim
theorem zak{v:VN}{k:V3}(h:toV v=some k):v.ok=true:=by
 obtain⟨h1,h2,h3⟩:=z7y h
 show ok3 v.x v.y v.z=true
 unfold ok3
 rw[(z0I h1).1,(z0I h2).1,(z0I h3).1];rfl
theorem zbL{v:VN}{k:V3}(h:toV v=some k):v.c=k.c:=by
 obtain⟨h1,h2,h3⟩:=z7y h
 exact zc6 h1 h2 h3
theorem z1t{v:VN}{k:V3}{n:Nat}(h:toV v=some k)(hr:v.raw n=true):k.x.sz≤n∧k.y.sz≤n∧k.z.sz≤n:=by
 obtain⟨h1,h2,h3⟩:=z7y h
 obtain⟨a,b,c⟩:=Y6.1 hr
 exact⟨z0c h1 a,z0c h2 b,z0c h3 c⟩
def vsz:Option V3→Nat
 |none=>0
 |some v=>v.sz
theorem z7I{o:Option V3}{n:Nat}(h:vsz o≤n):(ofV o).raw n=true:=by
 cases o with
 |none=>exact Y6.2 ⟨z0N (o:=none) (Nat.zero_le _),z0N (o:=none) (Nat.zero_le _),z0N (o:=none) (Nat.zero_le _)⟩
 |some v=>
  have h':max v.x.sz (max v.y.sz v.z.sz)≤n:=h
  exact Y6.2 ⟨RN.ofK_raw v.x (by omega),RN.ofK_raw v.y (by omega),RN.ofK_raw v.z (by omega)⟩
end Go.Fw
open Go IntKind
namespace Go.Fw
set_option maxRecDepth 100000
theorem znc(v:VN)(h1:(v.x.ok)=true)(h2:(v.y.ok)=true)(h3:(v.z.ok)=true)(s4_0:RN.raw 1000000 v.x=true)(s8_0:RN.raw 1000000 v.y=true)(s13_0:RN.raw 1000000 v.z=true):PCall P 99 [v.c] (.lit (.bool true)):=
 j3 (.r 4 ((V0 (v.x) s4_0).eqB h1) (.r 8 ((V0 (v.y) s8_0).eqB h2) (.r 13 ((V0 (v.z) s13_0).eqB h3) .nil))) (by kernel_rfl)
theorem zpv(v:VN)(h1:(v.x.ok)=true)(h2:(v.y.ok)=true)(h3:(v.z.ok)=false)(s4_0:RN.raw 1000000 v.x=true)(s8_0:RN.raw 1000000 v.y=true)(s13_0:RN.raw 1000000 v.z=true):PCall P 99 [v.c] (.lit (.bool false)):=
 j3 (.r 4 ((V0 (v.x) s4_0).eqB h1) (.r 8 ((V0 (v.y) s8_0).eqB h2) (.r 13 ((V0 (v.z) s13_0).eqB h3) .nil))) (by kernel_rfl)
theorem zoM(v:VN)(h1:(v.x.ok)=true)(h2:(v.y.ok)=false)(s4_0:RN.raw 1000000 v.x=true)(s8_0:RN.raw 1000000 v.y=true):PCall P 99 [v.c] (.lit (.bool false)):=
 j3 (.r 4 ((V0 (v.x) s4_0).eqB h1) (.r 8 ((V0 (v.y) s8_0).eqB h2) .nil)) (by kernel_rfl)
theorem zoc(v:VN)(h1:(v.x.ok)=false)(s4_0:RN.raw 1000000 v.x=true):PCall P 99 [v.c] (.lit (.bool false)):=
 j3 (.r 4 ((V0 (v.x) s4_0).eqB h1) .nil) (by kernel_rfl)
theorem zju(x y z:K)(s4_0:x.sz≤1000000)(s8_0:y.sz≤1000000)(s13_0:z.sz≤1000000):PCall P 99 [z1l x y z] (.lit (.bool true)):=
 j3 (.r 4 (z0n (x) s4_0) (.r 8 (z0n (y) s8_0) (.r 13 (z0n (z) s13_0) .nil))) (by kernel_rfl)
end Go.Fw
open Go
namespace Go.Fw
set_option maxRecDepth 100000
theorem z5n(v:VN)(h:v.raw 1000000=true):PCall P 99 [v.c] (.lit (.bool v.ok)):=by
 obtain⟨hx,hy,hz⟩:=Y6.1 h
 unfold VN.ok ok3
 cases ex:v.x.ok
 · exact zoc v ex hx
 · cases ey:v.y.ok
   · exact zoM v ex ey hx hy
   · cases ez:v.z.ok
     · exact zpv v ex ey ez hx hy hz
     · exact znc v ex ey ez hx hy hz
theorem zag(x y z:K)(hx:x.sz≤1000000)(hy:y.sz≤1000000)(hz:z.sz≤1000000):PCall P 99 [z1l x y z] (.lit (.bool true)):=zju x y z hx hy hz
end Go.Fw
open Go IntKind
namespace Go.Fw
set_option maxRecDepth 100000
theorem ziS(v:VN)(g:v.ok=false)(s3_0:VN.raw 1000000 v=true):PCall P 176 [v.c] V4:=
 j3 (.r 3 ((z5n (v) s3_0).eqB g) (.c (lq 30 30) .nil)) (by kernel_rfl)
theorem zlk(x y z:K)(s3_0:x.sz≤1000000)(s3_1:y.sz≤1000000)(s3_2:z.sz≤1000000)(s8_0:x.sz≤1000000)(s11_0:y.sz≤1000000)(s14_0:z.sz≤1000000):PCall P 176 [z1l x y z] (z1l (-x) (-y) (-z)):=
 j3 (.r 3 (zag (x) (y) (z) s3_0 s3_1 s3_2) (.r 8 (z6W (x) s8_0) (.r 11 (z6W (y) s11_0) (.r 14 (z6W (z) s14_0) (.c (lq 30 30) .nil))))) (by kernel_rfl)
theorem zjq(v:VN)(k:RN)(g:v.ok=false)(s4_0:VN.raw 1000000 v=true):PCall P 65 [v.c,k.c] V4:=
 j3 (.r 4 ((z5n (v) s4_0).eqB g) (.c (lq 30 30) .nil)) (by kernel_rfl)
theorem zhU(v:VN)(k:RN)(g:v.ok=true)(g2:k.ok=false)(s4_0:VN.raw 1000000 v=true)(s8_0:RN.raw 1000000 k=true):PCall P 65 [v.c,k.c] V4:=
 j3 (.r 4 ((z5n (v) s4_0).eqB g) (.r 8 ((V0 (k) s8_0).eqB g2) (.c (lq 30 30) .nil))) (by kernel_rfl)
theorem zkz(x y z k:K)(s4_0:x.sz≤1000000)(s4_1:y.sz≤1000000)(s4_2:z.sz≤1000000)(s8_0:k.sz≤1000000)(s15_0:x.sz≤1000000)(s15_1:k.sz≤1000000)(s19_0:y.sz≤1000000)(s19_1:k.sz≤1000000)(s23_0:z.sz≤1000000)(s23_1:k.sz≤1000000):PCall P 65 [z1l x y z,Q8 k] (z1l (x*k) (y*k) (z*k)):=
 j3 (.r 4 (zag (x) (y) (z) s4_0 s4_1 s4_2) (.r 8 (z0n (k) s8_0) (.r 15 (z30 (x) (k) s15_0 s15_1) (.r 19 (z30 (y) (k) s19_0 s19_1) (.r 23 (z30 (z) (k) s23_0 s23_1) (.c (lq 30 30) .nil)))))) (by kernel_rfl)
theorem zjA(v w:VN)(g:v.ok=false)(s4_0:VN.raw 1000000 v=true):PCall P 173 [v.c,w.c] (.agg z09):=
 j3 (.r 4 ((z5n (v) s4_0).eqB g) (.c (lq 10 10) .nil)) (by kernel_rfl)
theorem ziT(v w:VN)(g:v.ok=true)(g2:w.ok=false)(s4_0:VN.raw 1000000 v=true)(s8_0:VN.raw 1000000 w=true):PCall P 173 [v.c,w.c] (.agg z09):=
 j3 (.r 4 ((z5n (v) s4_0).eqB g) (.r 8 ((z5n (w) s8_0).eqB g2) (.c (lq 10 10) .nil))) (by kernel_rfl)
theorem zlu(x y z x' y' z':K)(s4_0:x.sz≤1000000)(s4_1:y.sz≤1000000)(s4_2:z.sz≤1000000)(s8_0:x'.sz≤1000000)(s8_1:y'.sz≤1000000)(s8_2:z'.sz≤1000000)(s16_0:x.sz≤1000000)(s16_1:x'.sz≤1000000)(s21_0:y.sz≤1000000)(s21_1:y'.sz≤1000000)(s22_0:(x*x').sz≤1000000)(s22_1:(y*y').sz≤1000000)(s27_0:z.sz≤1000000)(s27_1:z'.sz≤1000000)(s28_0:(x*x'+y*y').sz≤1000000)(s28_1:(z*z').sz≤1000000):PCall P 173 [z1l x y z,z1l x' y' z'] (Q8 (x*x'+y*y'+z*z')):=
 j3 (.r 4 (zag (x) (y) (z) s4_0 s4_1 s4_2) (.r 8 (zag (x') (y') (z') s8_0 s8_1 s8_2) (.r 16 (z30 (x) (x') s16_0 s16_1) (.r 21 (z30 (y) (y') s21_0 s21_1) (.r 22 (z8o (x*x') (y*y') s22_0 s22_1) (.r 27 (z30 (z) (z') s27_0 s27_1) (.r 28 (z8o (x*x'+y*y') (z*z') s28_0 s28_1) (.c (lq 10 10) .nil)))))))) (by kernel_rfl)
theorem zi6(a b c:Int)(s2_0:(-9223372036854775808:Int)≤a∧a≤9223372036854775807)(s4_0:(-9223372036854775808:Int)≤b∧b≤9223372036854775807)(s6_0:(-9223372036854775808:Int)≤c∧c≤9223372036854775807):PCall P 63 [j6 a,j6 b,j6 c] (z1l (K.ofInt a) (K.ofInt b) (K.ofInt c)):=
 j3 (.r 2 (z4h (a) s2_0) (.r 4 (z4h (b) s4_0) (.r 6 (z4h (c) s6_0) (.c (lq 30 30) .nil)))) (by kernel_rfl)
end Go.Fw
open Go
namespace Go.Fw
set_option maxRecDepth 100000
namespace V3
def add(a b:V3):V3:=⟨a.x+b.x,a.y+b.y,a.z+b.z⟩
def sub(a b:V3):V3:=⟨a.x-b.x,a.y-b.y,a.z-b.z⟩
def neg(a:V3):V3:=⟨-a.x,-a.y,-a.z⟩
def scale(a:V3)(k:K):V3:=⟨a.x*k,a.y*k,a.z*k⟩
def dot(a b:V3):K:=a.x*b.x+a.y*b.y+a.z*b.z
def cross(a b:V3):V3:=⟨a.y*b.z-a.z*b.y,a.z*b.x-a.x*b.z,a.x*b.y-a.y*b.x⟩
end V3
def o2{α β γ:Type}(f:α→β→γ):Option α→Option β→Option γ
 |some a,some b=>some (f a b)
 |_,_=>none
noncomputable def zeD(v w:VN):VN:=ofV (o2 V3.sub (toV v) (toV w))
noncomputable def zkc(v:VN):VN:=ofV ((toV v).map V3.neg)
noncomputable def z0A(v:VN)(k:RN):VN:=ofV (o2 V3.scale (toV v) (toO k))
noncomputable def zas(v w:VN):RN:=ofO (o2 V3.dot (toV v) (toV w))
theorem zkf(v:VN)(hv:v.raw 1000000=true):PCall P 176 [v.c] (zkc v).c:=by
 unfold zkc
 cases ev:toV v with
 |none=>exact ziS v (z36 ev) hv
 |some a=>
  obtain⟨x,y,z⟩:=z1t ev hv
  rw[zbL ev]
  exact zlk _ _ _ x y z x y z
theorem z5U(v:VN)(k:RN)(hv:v.raw 1000000=true)(hk:k.raw 1000000=true):PCall P 65 [v.c,k.c] (z0A v k).c:=by
 unfold z0A
 cases ev:toV v with
 |none=>exact zjq v k (z36 ev) hv
 |some a=>
  cases ek:toO k with
  |none=>exact zhU v k (zak ev) (U4 ek) hv hk
  |some b=>
   obtain⟨x,y,z⟩:=z1t ev hv
   have hb:=z0c ek hk
   rw[zbL ev,z8B (z0I ek).2]
   exact zkz _ _ _ _ x y z hb x hb y hb z hb
theorem zkl(v w:VN)(hv:v.raw 1000=true)(hw:w.raw 1000=true):PCall P 173 [v.c,w.c] (zas v w).c:=by
 have hv':=VN.raw_mono hv (show 1000≤1000000 by decide)
 have hw':=VN.raw_mono hw (show 1000≤1000000 by decide)
 unfold zas
 cases ev:toV v with
 |none=>exact zjA v w (z36 ev) hv'
 |some a=>
  cases ew:toV w with
  |none=>exact ziT v w (zak ev) (z36 ew) hv' hw'
  |some b=>
   obtain⟨x,y,z⟩:=z1t ev hv
   obtain⟨x',y',z'⟩:=z1t ew hw
   have m1:=K.sz_mul a.x b.x
   have m2:=K.sz_mul a.y b.y
   have m3:=K.sz_mul a.z b.z
   have m4:=K.sz_add (a.x*b.x) (a.y*b.y)
   rw[zbL ev,zbL ew]
   exact zlu _ _ _ _ _ _ (by omega) (by omega) (by omega) (by omega) (by omega) (by omega) (by omega) (by omega) (by omega) (by omega) (by omega) (by omega) (by omega) (by omega) (by omega) (by omega)
end Go.Fw
open Go IntKind
namespace Go.Fw
set_option maxRecDepth 100000
theorem zkM(x y:RN)(g:x.ok=false)(s4_0:RN.raw 1000000 x=true):PCall P 137 [x.c,y.c] (.agg z09):=
 j3 (.r 4 ((z0d (x) s4_0).eqB g) (.c (lq 10 10) .nil)) (by kernel_rfl)
theorem zj6(x y:RN)(g:x.ok=true)(g2:y.ok=false)(s4_0:RN.raw 1000000 x=true)(s8_0:RN.raw 1000000 y=true):PCall P 137 [x.c,y.c] (.agg z09):=
 j3 (.r 4 ((z0d (x) s4_0).eqB g) (.r 8 ((z0d (y) s8_0).eqB g2) (.c (lq 10 10) .nil))) (by kernel_rfl)
theorem zi1(x y:RN)(g:x.ok=false)(s4_0:RN.raw 1000000 x=true):PCall P 136 [x.c,y.c] (.agg z09):=
 j3 (.r 4 ((z0d (x) s4_0).eqB g) (.c (lq 10 10) .nil)) (by kernel_rfl)
theorem zlh(x y:RN)(g:x.ok=true)(g2:y.ok=false)(s4_0:RN.raw 1000000 x=true)(s8_0:RN.raw 1000000 y=true):PCall P 136 [x.c,y.c] (.agg z09):=
 j3 (.r 4 ((z0d (x) s4_0).eqB g) (.r 8 ((z0d (y) s8_0).eqB g2) (.c (lq 10 10) .nil))) (by kernel_rfl)
theorem zl0(x:RN)(g:x.ok=false)(s3_0:RN.raw 1000000 x=true):PCall P 121 [x.c] (.agg z09):=
 j3 (.r 3 ((z0d (x) s3_0).eqB g) (.c (lq 10 10) .nil)) (by kernel_rfl)
theorem zlS(x:RN)(g:x.ok=false)(s3_0:RN.raw 1000000 x=true):PCall P 146 [x.c] (.lit (.int .i64 0)):=
 j3 (.r 3 ((z0d (x) s3_0).eqB g) .nil) (by kernel_rfl)
theorem zlb(x y:RN)(g:x.ok=false)(s5_0:RN.raw 1000000 x=true):PCall P 147 [x.c,y.c] (.tup [.agg z09,.lit (.int .i64 1)]):=
 j3 (.r 5 ((z0d (x) s5_0).eqB g) (.c (lq 10 10) .nil)) (by kernel_rfl)
theorem zje(x y:RN)(g:x.ok=true)(g2:y.ok=false)(s5_0:RN.raw 1000000 x=true)(s9_0:RN.raw 1000000 y=true):PCall P 147 [x.c,y.c] (.tup [.agg z09,.lit (.int .i64 1)]):=
 j3 (.r 5 ((z0d (x) s5_0).eqB g) (.r 9 ((z0d (y) s9_0).eqB g2) (.c (lq 10 10) .nil))) (by kernel_rfl)
end Go.Fw
open Go
namespace Go.Fw
set_option maxRecDepth 100000
theorem z89(x y:RN)(hx:x.raw 1000000=true)(hy:y.raw 1000000=true):PCall P 137 [x.c,y.c] (z3n x y).c:=by
 unfold z3n
 cases ex:toO x with
 |none=>exact zkM x y (U4 ex) hx
 |some k=>
  cases ey:toO y with
  |none=>exact zj6 x y (z0I ex).1 (U4 ey) hx hy
  |some l=>
   have a:=z0c ex hx
   have b:=z0c ey hy
   rw[z8B (z0I ex).2,z8B (z0I ey).2]
   exact za2 k l (by omega)
theorem z4u(x y:RN)(hx:x.raw 1000000=true)(hy:y.raw 1000000=true):PCall P 136 [x.c,y.c] (z1Z x y).c:=by
 unfold z1Z
 cases ex:toO x with
 |none=>exact zi1 x y (U4 ex) hx
 |some k=>
  cases ey:toO y with
  |none=>exact zlh x y (z0I ex).1 (U4 ey) hx hy
  |some l=>
   have a:=z0c ex hx
   have b:=z0c ey hy
   rw[z8B (z0I ex).2,z8B (z0I ey).2]
   exact z3Z k l (by omega)
theorem z8a(x:RN)(hx:x.raw 1000000=true):PCall P 121 [x.c] (z4z x).c:=by
 unfold z4z
 cases ex:toO x with
 |none=>exact zl0 x (U4 ex) hx
 |some k=>
  have a:=z0c ex hx
  rw[z8B (z0I ex).2]
  exact z8g k (by simp only[Smk];omega)
end Go.Fw
open Go IntKind
namespace Go.Fw
set_option maxRecDepth 100000
theorem zqs(a b c:Int)(h1:(a==b)=true):PCall P 208 [j6 a,j6 b,j6 c] (.lit (.int .i64 a)):=
 j3 (.b 4 h1 .nil) (by kernel_rfl)
theorem znS(a b c:Int)(h1:(a==b)=false)(h2:(b==0)=true):PCall P 208 [j6 a,j6 b,j6 c] (.lit (.int .i64 a)):=
 j3 (.b 4 h1 (.b 9 h2 .nil)) (by kernel_rfl)
theorem zoZ(a b c:Int)(h1:(a==b)=false)(h2:(b==0)=false)(h3:(a==0)=true):PCall P 208 [j6 a,j6 b,j6 c] (.lit (.int .i64 b)):=
 j3 (.b 4 h1 (.b 9 h2 (.b 13 h3 .nil))) (by kernel_rfl)
theorem zp5(a b c:Int)(h1:(a==b)=false)(h2:(b==0)=false)(h3:(a==0)=false):PCall P 208 [j6 a,j6 b,j6 c] (.lit (.int .i64 (i64.wrap (a*c)))):=
 j3 (.b 4 h1 (.b 9 h2 (.b 13 h3 .nil))) (by kernel_rfl)
theorem zo8(k a b:Int)(s4_0:(-9223372036854775808:Int)≤k∧k≤9223372036854775807)(s7_0:SmlZ a)(s7_1:SmlZ b)(s7_2:Sml (a.natAbs*b.natAbs))(s8_0:SmlZ k)(s8_1:SmlZ (a*b))(s8_2:Sml (k.natAbs*(a*b).natAbs)):PCall P 210 [j6 k,J5 a,J5 b] (.agg [.lit (.bool (decide (k*(a*b)<0))),.lit (.string (bytesOf (k*(a*b)).natAbs))]):=
 j3 (.r 4 (z1C (k) s4_0) (.r 7 (z0e (a) (b) s7_0 s7_1 s7_2) (.r 8 (z0e (k) (a*b) s8_0 s8_1 s8_2) (.c (lq 2 2) .nil)))) (by kernel_rfl)
end Go.Fw
open Go
namespace Go.Fw
set_option maxRecDepth 100000
def z5o(a b c:Int):Int:=if a=b∨b=0 then a else if a=0 then b else a*c
theorem z2V(a b c:Int)(ha: -1≤a∧a≤1)(hc: -1≤c∧c≤1):PCall P 208 [j6 a,j6 b,j6 c] (j6 (z5o a b c)):=by
 unfold z5o
 by_cases h1:a=b
 · rw[if_pos (.inl h1)]
   exact zqs a b c (by simp[h1])
 · by_cases h2:b=0
   · rw[if_pos (.inr h2)]
     exact znS a b c (by simp[h1]) (by simp[h2])
   · rw[if_neg (by rintro(h|h)<;>contradiction)]
     by_cases h3:a=0
     · rw[if_pos h3]
       exact zoZ a b c (by simp[h1]) (by simp[h2]) (by simp[h3])
     · rw[if_neg h3]
       have:=zp5 a b c (by simp[h1]) (by simp[h2]) (by simp[h3])
       have hw:IntKind.i64.wrap (a*c)=a*c:=by
        have:a= -1∨a=1:=by omega
        rcases this with h|h<;>rw[h]<;>exact w64 (by omega)
       rwa[hw]at this
theorem z9u(k a b:Int){n m:Nat}(hk: -100≤k∧k≤100)(ha:By n a)(hb:By m b)(hn:n+m+1<1073741824):PCall P 210 [j6 k,J5 a,J5 b] (J5 (k*(a*b))):=by
 have hk':By 1 k:=by unfold By;omega
 have hab:=ha.mul hb
 exact zo8 k a b (by omega) (ha.sml (by omega)) (hb.sml (by omega)) (ha.sm2 hb (by omega)) (hk'.sml (by decide)) (hab.sml (by omega)) (hk'.sm2 hab (by omega))
end Go.Fw
open Go IntKind
namespace Go.Fw
set_option maxRecDepth 100000
theorem zoe(a b:Int)(s5_0:SmlZ a)(s5_1:SmlZ b)(s5_2:Sml (a.natAbs+b.natAbs)):PCall P 246 [J5 a,J5 b] (.lit (.int .i64 (a-b).sign)):=
 j3 (.r 5 (zaW (a) (b) s5_0 s5_1 s5_2) (.r 6 (z17 (a-b)) .nil)) (by kernel_rfl)
end Go.Fw
open Go
namespace Go.Fw
set_option maxRecDepth 100000
def Two(a b:Int):Prop:= ∃n,n≤500000000∧By n a∧By n b
theorem z2y(k a b:Int)(hk: -100≤k∧k≤100)(h:Two a b):PCall P 210 [j6 k,J5 a,J5 b] (J5 (k*(a*b))):=by
 obtain⟨n,hn,ha,hb⟩:=h
 exact z9u k a b hk ha hb (by omega)
theorem zdK(a b:Int)(h:Two a b):PCall P 246 [J5 a,J5 b] (j6 (a-b).sign):=by
 obtain⟨n,hn,ha,hb⟩:=h
 exact zoe a b (ha.sml (by omega)) (hb.sml (by omega)) (ha.sma hb (by omega))
theorem zpg(a b:Int)(h:Two a b):PCall P 203 [J5 a,J5 b] (J5 (a*b)):=by
 obtain⟨n,hn,ha,hb⟩:=h
 exact z0e a b (ha.sml (by omega)) (hb.sml (by omega)) (ha.sm2 hb (by omega))
theorem zhl(a b:Int)(h:Two a b):PCall P 202 [J5 a,J5 b] (J5 (a+b)):=by
 obtain⟨n,hn,ha,hb⟩:=h
 exact z2v a b (ha.sml (by omega)) (hb.sml (by omega)) (ha.sma hb (by omega))
theorem zhv(a b:Int)(h:Two a b):PCall P 209 [J5 a,J5 b] (J5 (a-b)):=by
 obtain⟨n,hn,ha,hb⟩:=h
 exact zaW a b (ha.sml (by omega)) (hb.sml (by omega)) (ha.sma hb (by omega))
end Go.Fw
open Go IntKind
namespace Go.Fw
set_option maxRecDepth 100000
theorem zq5(a b:Int)(s9_0:Two a a)(s12_0:(-100:Int)≤2∧(2:Int)≤100)(s12_1:Two b b)(s13_0:Two (a*a) ((2:Int)*(b*b)))(s14_0:(-1:Int)≤a.sign∧a.sign≤1)(s14_1:(-1:Int)≤(a*a-2*(b*b)).sign∧(a*a-2*(b*b)).sign≤1):PCall P 207 [J5 a,J5 b] (.lit (.int .i64 (z5o a.sign b.sign (a*a-2*(b*b)).sign))):=
 j3 (.r 4 (z17 (a)) (.r 6 (z17 (b)) (.r 9 (zpg (a) (a) s9_0) (.r 12 (z2y ((2:Int)) (b) (b) s12_0 s12_1) (.r 13 (zdK (a*a) ((2:Int)*(b*b)) s13_0) (.r 14 (z2V (a.sign) (b.sign) ((a*a-2*(b*b)).sign) s14_0 s14_1) .nil)))))) (by kernel_rfl)
end Go.Fw
open Go
namespace Go.Fw
set_option maxRecDepth 100000
def sg2(a b:Int):Int:=z5o a.sign b.sign (a*a-2*(b*b)).sign
theorem z3P(a:Int): -1≤a.sign∧a.sign≤1:=by
 rcases Int.lt_trichotomy a 0 with h|h|h
 · rw[Int.sign_eq_neg_one_of_neg h];decide
 · rw[h];decide
 · rw[Int.sign_eq_one_of_pos h];decide
theorem ziY{a b c:Int}(ha: -1≤a∧a≤1)(hb: -1≤b∧b≤1)(hc: -1≤c∧c≤1): -1≤z5o a b c∧z5o a b c≤1:=by
 unfold z5o
 split
 · exact ha
 · split
   · exact hb
   · have:a= -1∨a=0∨a=1:=by omega
     rcases this with h|h|h<;>rw[h]<;>omega
theorem zaO(a b:Int): -1≤sg2 a b∧sg2 a b≤1:=ziY (z3P a) (z3P b) (z3P _)
def z5F(a b:Int):Prop:= ∃n,n≤100000000∧By n a∧By n b
theorem By.two{a:Int}{n:Nat}(h:By n a):By (n+1) (2*a):=by
 have:By 1 2:=by unfold By;decide
 have:=this.mul h
 rwa[Nat.add_comm]at this
theorem z1j(a b:Int)(h:z5F a b):PCall P 207 [J5 a,J5 b] (j6 (sg2 a b)):=by
 obtain⟨n,hn,ha,hb⟩:=h
 exact zq5 a b ⟨n,by omega,ha,ha⟩ (by decide) ⟨n,by omega,hb,hb⟩ ⟨n+n+1,by omega,(ha.mul ha).mono (by omega),(hb.mul hb).two⟩ (z3P _) (z3P _)
end Go.Fw
open Go IntKind
namespace Go.Fw
set_option maxRecDepth 100000
theorem znk(x:K)(h1:(sg2 x.c0 x.c1==sg2 x.c2 x.c3)=true)(s3_0:Smk x)(s28_0:z5F x.c0 x.c1)(s31_0:z5F x.c2 x.c3)(s48_0:(-1:Int)≤sg2 x.c0 x.c1∧sg2 x.c0 x.c1≤1)(s48_1:(-1:Int)≤0∧(0:Int)≤1):PCall P 146 [Q8 x] (.lit (.int .i64 (z5o (sg2 x.c0 x.c1) (sg2 x.c2 x.c3) (0:Int)))):=
 j3 (.r 3 (z01 (x) s3_0) (.c (bq 0 4) (.c (bq 1 4) (.c (bq 2 4) (.c (bq 3 4) (.c (lq 2 2) (.c (lq 2 2) (.c (lq 2 2) (.c (lq 2 2) (.r 28 (z1j (x.c0) (x.c1) s28_0) (.r 31 (z1j (x.c2) (x.c3) s31_0) (.b 37 h1 (.r 48 (z2V (sg2 x.c0 x.c1) (sg2 x.c2 x.c3) ((0:Int)) s48_0 s48_1) .nil))))))))))))) (by kernel_rfl)
theorem zoB(x:K)(h1:(sg2 x.c0 x.c1==sg2 x.c2 x.c3)=false)(h2:(sg2 x.c2 x.c3==0)=true)(s3_0:Smk x)(s28_0:z5F x.c0 x.c1)(s31_0:z5F x.c2 x.c3)(s48_0:(-1:Int)≤sg2 x.c0 x.c1∧sg2 x.c0 x.c1≤1)(s48_1:(-1:Int)≤0∧(0:Int)≤1):PCall P 146 [Q8 x] (.lit (.int .i64 (z5o (sg2 x.c0 x.c1) (sg2 x.c2 x.c3) (0:Int)))):=
 j3 (.r 3 (z01 (x) s3_0) (.c (bq 0 4) (.c (bq 1 4) (.c (bq 2 4) (.c (bq 3 4) (.c (lq 2 2) (.c (lq 2 2) (.c (lq 2 2) (.c (lq 2 2) (.r 28 (z1j (x.c0) (x.c1) s28_0) (.r 31 (z1j (x.c2) (x.c3) s31_0) (.b 37 h1 (.b 41 h2 (.r 48 (z2V (sg2 x.c0 x.c1) (sg2 x.c2 x.c3) ((0:Int)) s48_0 s48_1) .nil)))))))))))))) (by kernel_rfl)
theorem zqI(x:K)(h1:(sg2 x.c0 x.c1==sg2 x.c2 x.c3)=false)(h2:(sg2 x.c2 x.c3==0)=false)(h3:(sg2 x.c0 x.c1==0)=true)(s3_0:Smk x)(s28_0:z5F x.c0 x.c1)(s31_0:z5F x.c2 x.c3)(s48_0:(-1:Int)≤sg2 x.c0 x.c1∧sg2 x.c0 x.c1≤1)(s48_1:(-1:Int)≤0∧(0:Int)≤1):PCall P 146 [Q8 x] (.lit (.int .i64 (z5o (sg2 x.c0 x.c1) (sg2 x.c2 x.c3) (0:Int)))):=
 j3 (.r 3 (z01 (x) s3_0) (.c (bq 0 4) (.c (bq 1 4) (.c (bq 2 4) (.c (bq 3 4) (.c (lq 2 2) (.c (lq 2 2) (.c (lq 2 2) (.c (lq 2 2) (.r 28 (z1j (x.c0) (x.c1) s28_0) (.r 31 (z1j (x.c2) (x.c3) s31_0) (.b 37 h1 (.b 41 h2 (.b 45 h3 (.r 48 (z2V (sg2 x.c0 x.c1) (sg2 x.c2 x.c3) ((0:Int)) s48_0 s48_1) .nil))))))))))))))) (by kernel_rfl)
theorem zqa(x:K)(h1:(sg2 x.c0 x.c1==sg2 x.c2 x.c3)=false)(h2:(sg2 x.c2 x.c3==0)=false)(h3:(sg2 x.c0 x.c1==0)=false)(s3_0:Smk x)(s28_0:z5F x.c0 x.c1)(s31_0:z5F x.c2 x.c3)(s48_0:(-100:Int)≤1∧(1:Int)≤100)(s48_1:Two x.c0 x.c0)(s51_0:(-100:Int)≤2∧(2:Int)≤100)(s51_1:Two x.c1 x.c1)(s52_0:Two ((1:Int)*(x.c0*x.c0)) ((2:Int)*(x.c1*x.c1)))(s55_0:(-100:Int)≤3∧(3:Int)≤100)(s55_1:Two x.c2 x.c2)(s58_0:(-100:Int)≤6∧(6:Int)≤100)(s58_1:Two x.c3 x.c3)(s59_0:Two ((3:Int)*(x.c2*x.c2)) ((6:Int)*(x.c3*x.c3)))(s60_0:Two ((1:Int)*(x.c0*x.c0)+2*(x.c1*x.c1)) ((3:Int)*(x.c2*x.c2)+6*(x.c3*x.c3)))(s65_0:(-100:Int)≤2∧(2:Int)≤100)(s65_1:Two x.c0 x.c1)(s68_0:(-100:Int)≤6∧(6:Int)≤100)(s68_1:Two x.c2 x.c3)(s69_0:Two ((2:Int)*(x.c0*x.c1)) ((6:Int)*(x.c2*x.c3)))(s76_0:z5F ((1:Int)*(x.c0*x.c0)+2*(x.c1*x.c1)-((3:Int)*(x.c2*x.c2)+6*(x.c3*x.c3))) ((2:Int)*(x.c0*x.c1)-6*(x.c2*x.c3)))(s77_0:(-1:Int)≤sg2 x.c0 x.c1∧sg2 x.c0 x.c1≤1)(s77_1:(-1:Int)≤sg2 ((1:Int)*(x.c0*x.c0)+2*(x.c1*x.c1)-((3:Int)*(x.c2*x.c2)+6*(x.c3*x.c3))) ((2:Int)*(x.c0*x.c1)-6*(x.c2*x.c3))∧sg2 ((1:Int)*(x.c0*x.c0)+2*(x.c1*x.c1)-((3:Int)*(x.c2*x.c2)+6*(x.c3*x.c3))) ((2:Int)*(x.c0*x.c1)-6*(x.c2*x.c3))≤1):PCall P 146 [Q8 x] (.lit (.int .i64 (z5o (sg2 x.c0 x.c1) (sg2 x.c2 x.c3) (sg2 ((1:Int)*(x.c0*x.c0)+2*(x.c1*x.c1)-((3:Int)*(x.c2*x.c2)+6*(x.c3*x.c3))) ((2:Int)*(x.c0*x.c1)-6*(x.c2*x.c3)))))):=
 j3 (.r 3 (z01 (x) s3_0) (.c (bq 0 4) (.c (bq 1 4) (.c (bq 2 4) (.c (bq 3 4) (.c (lq 2 2) (.c (lq 2 2) (.c (lq 2 2) (.c (lq 2 2) (.r 28 (z1j (x.c0) (x.c1) s28_0) (.r 31 (z1j (x.c2) (x.c3) s31_0) (.b 37 h1 (.b 41 h2 (.b 45 h3 (.r 48 (z2y ((1:Int)) (x.c0) (x.c0) s48_0 s48_1) (.r 51 (z2y ((2:Int)) (x.c1) (x.c1) s51_0 s51_1) (.r 52 (zhl ((1:Int)*(x.c0*x.c0)) ((2:Int)*(x.c1*x.c1)) s52_0) (.r 55 (z2y ((3:Int)) (x.c2) (x.c2) s55_0 s55_1) (.r 58 (z2y ((6:Int)) (x.c3) (x.c3) s58_0 s58_1) (.r 59 (zhl ((3:Int)*(x.c2*x.c2)) ((6:Int)*(x.c3*x.c3)) s59_0) (.r 60 (zhv ((1:Int)*(x.c0*x.c0)+2*(x.c1*x.c1)) ((3:Int)*(x.c2*x.c2)+6*(x.c3*x.c3)) s60_0) (.c (lq 2 2) (.r 65 (z2y ((2:Int)) (x.c0) (x.c1) s65_0 s65_1) (.r 68 (z2y ((6:Int)) (x.c2) (x.c3) s68_0 s68_1) (.r 69 (zhv ((2:Int)*(x.c0*x.c1)) ((6:Int)*(x.c2*x.c3)) s69_0) (.c (lq 2 2) (.r 76 (z1j ((1:Int)*(x.c0*x.c0)+2*(x.c1*x.c1)-((3:Int)*(x.c2*x.c2)+6*(x.c3*x.c3))) ((2:Int)*(x.c0*x.c1)-6*(x.c2*x.c3)) s76_0) (.r 77 (z2V (sg2 x.c0 x.c1) (sg2 x.c2 x.c3) (sg2 ((1:Int)*(x.c0*x.c0)+2*(x.c1*x.c1)-((3:Int)*(x.c2*x.c2)+6*(x.c3*x.c3))) ((2:Int)*(x.c0*x.c1)-6*(x.c2*x.c3))) s77_0 s77_1) .nil)))))))))))))))))))))))))))) (by kernel_rfl)
end Go.Fw
open Go
namespace Go.Fw
set_option maxRecDepth 100000
section
variable{R:Type}[CR R][Sg R] {m:R}[im:Sg.Irr m]
theorem Adj.sg_mix(x:Adj R m):Adj.sg x=z5o (Sg.sg x.re) (Sg.sg x.im) (Sg.sg (Adj.nm x)):=by
 have hz:=Adj.nm_zero x
 rcases Sg.vals (Adj.nm x)with hn|hn|hn
 · -- the second part is the greater
   have hi:=Adj.im_ne hn
   have e:Adj.sg x=Sg.sg x.im:=by unfold Adj.sg;rw[hn,if_neg (by decide),if_pos rfl]
   rw[e,hn]
   unfold z5o
   rcases Sg.vals x.re with ha|ha|ha<;>rcases Sg.vals x.im with hb|hb|hb<;>rw[ha,hb]<;>first|rfl|exact absurd hb hi
 · have e:Adj.sg x=0:=by unfold Adj.sg;rw[hn,if_neg (by decide),if_neg (by decide)]
   have h0:=hz.1 hn
   have hr:Sg.sg x.re=0:=by rw[h0];exact(Sg.zero _).2 rfl
   have hi:Sg.sg x.im=0:=by rw[h0];exact(Sg.zero _).2 rfl
   rw[e,hr,hi];rfl
 · have hr:=Adj.re_ne hn
   have e:Adj.sg x=Sg.sg x.re:=by unfold Adj.sg;rw[hn,if_pos rfl]
   rw[e,hn]
   unfold z5o
   rcases Sg.vals x.re with ha|ha|ha<;>rcases Sg.vals x.im with hb|hb|hb<;>rw[ha,hb]<;>first|rfl|exact absurd ha hr
end
theorem zcw(a b:Int):sg2 a b=Adj.sg (⟨a,b⟩:Z2):=by
 rw[Adj.sg_mix];rfl
theorem z3d{a b c c':Int}(h:a=b∨b=0∨a=0):z5o a b c=z5o a b c':=by
 unfold z5o
 rcases h with h|h|h
 · rw[if_pos (.inl h),if_pos (.inl h)]
 · rw[if_pos (.inr h),if_pos (.inr h)]
 · rw[if_pos h,if_pos h]
def zrs(x:K):Int:=z5o (sg2 x.c0 x.c1) (sg2 x.c2 x.c3) (sg2 (1*(x.c0*x.c0)+2*(x.c1*x.c1)-(3*(x.c2*x.c2)+6*(x.c3*x.c3))) (2*(x.c0*x.c1)-6*(x.c2*x.c3)))
theorem zdP(x:K):zrs x=K.sgn x:=by
 show _=Adj.sg (K.num x)
 rw[Adj.sg_mix]
 unfold zrs
 rw[zcw,zcw,zcw]
 show z5o _ _ _=z5o (Adj.sg (K.num x).re) (Adj.sg (K.num x).im) (Adj.sg (Adj.nm (K.num x)))
 congr 2
 refine Adj.ext ?_ ?_
 · show 1*(x.c0*x.c0)+2*(x.c1*x.c1)-(3*(x.c2*x.c2)+6*(x.c3*x.c3))=x.c0*x.c0+2*(x.c1*x.c1)-(3*(x.c2*x.c2+2*(x.c3*x.c3))+2*(0*(x.c2*x.c3+x.c3*x.c2)))
   grind
 · show 2*(x.c0*x.c1)-6*(x.c2*x.c3)=x.c0*x.c1+x.c1*x.c0-(3*(x.c2*x.c3+x.c3*x.c2)+0*(x.c2*x.c2+2*(x.c3*x.c3)))
   grind
end Go.Fw
open Go
namespace Go.Fw
set_option maxRecDepth 100000
theorem By.k{a k:Int}{n:Nat}(hk: -100≤k∧k≤100)(h:By n a):By (n+1) (k*a):=by
 have:By 1 k:=by unfold By;omega
 have:=this.mul h
 rwa[Nat.add_comm]at this
theorem By.sub{a b:Int}{n:Nat}(h:By n a)(k:By n b):By (n+1) (a-b):=by
 have:=h.add k.neg
 rwa[←Int.sub_eq_add_neg]at this
theorem zjM(x:K)(hx:x.sz≤10000000):PCall P 146 [Q8 x] (j6 (K.sgn x)):=by
 obtain⟨x0,x1,x2,x3,_⟩:=By.of_sz hx
 have hs:Smk x:=by simp only[Smk];omega
 have t01:z5F x.c0 x.c1:=⟨_,by decide,x0,x1⟩
 have t23:z5F x.c2 x.c3:=⟨_,by decide,x2,x3⟩
 have b1:=zaO x.c0 x.c1
 rw[←zdP]
 unfold zrs
 by_cases h1:sg2 x.c0 x.c1=sg2 x.c2 x.c3
 · rw[z3d (c':=0) (.inl h1)]
   exact znk x (by simp[h1]) hs t01 t23 b1 (by decide)
 · by_cases h2:sg2 x.c2 x.c3=0
   · rw[z3d (c':=0) (.inr (.inl h2))]
     exact zoB x (beq_false_of_ne h1) (by simp[h2]) hs t01 t23 b1 (by decide)
   · by_cases h3:sg2 x.c0 x.c1=0
     · rw[z3d (c':=0) (.inr (.inr h3))]
       exact zqI x (beq_false_of_ne h1) (beq_false_of_ne h2) (by simp[h3]) hs t01 t23 b1 (by decide)
     · obtain⟨n,hn,hy⟩: ∃n,n≤10000000∧x.sz≤n:=⟨_,Nat.le_refl _,hx⟩
       obtain⟨y0,y1,y2,y3,_⟩:=By.of_sz hy
       have tw: ∀{a b:Int},By n a→By n b→Two a b:=fun ha hb=>⟨n,by omega,ha,hb⟩
       have q0:=(y0.mul y0).k (k:=1) (by decide)
       have q1:=(y1.mul y1).k (k:=2) (by decide)
       have q2:=(y2.mul y2).k (k:=3) (by decide)
       have q3:=(y3.mul y3).k (k:=6) (by decide)
       have r1:=(y0.mul y1).k (k:=2) (by decide)
       have r2:=(y2.mul y3).k (k:=6) (by decide)
       have u1:=q0.add q1
       have u2:=q2.add q3
       exact zqa x (beq_false_of_ne h1) (beq_false_of_ne h2) (beq_false_of_ne h3) hs t01 t23 (by decide) (tw y0 y0) (by decide) (tw y1 y1) ⟨_,by omega,q0,q1⟩ (by decide) (tw y2 y2) (by decide) (tw y3 y3) ⟨_,by omega,q2,q3⟩ ⟨_,by omega,u1,u2⟩
        (by decide) (tw y0 y1) (by decide) (tw y2 y3) ⟨_,by omega,r1,r2⟩ ⟨_,by omega,u1.sub u2,(r1.sub r2).mono (Nat.le_succ _)⟩ b1 (zaO _ _)
noncomputable def z15(x:RN):Int:=match toO x with
 |some k=>K.sgn k
 |none=>0
theorem z2Q(x:RN)(hx:x.raw 1000000=true):PCall P 146 [x.c] (j6 (z15 x)):=by
 unfold z15
 cases ex:toO x with
 |none=>exact zlS x (U4 ex) hx
 |some k=>
  have a:=z0c ex hx
  rw[z8B (z0I ex).2]
  exact zjM k (by omega)
end Go.Fw
