/- A part of the proof that the law returns true for every input: an executor for the model's code, and what functions of the program compute. -/
import Derived.Test.YtcafjpldfnegiaaGreatDoorB06
import Derived.Test.YtcafjpldfnegiaaGreatDoorB11
import Derived.Test.YtcafjpldfnegiaaGreatDoorB15
import Derived.Test.YtcafjpldfnegiaaGreatDoorB22
import Derived.Test.YtcafjpldfnegiaaGreatDoorB28
import Derived.Test.YtcafjpldfnegiaaGreatDoorB37
import Derived.Test.YtcafjpldfnegiaaGreatDoorB38
import Derived.Test.YtcafjpldfnegiaaGreatDoorB39
import Derived.KernelRfl
import Derived.RangeFuncNested
import Derived.RangeFuncBound
import Derived.RangeFuncCalls
import Derived.RangeFuncLeaves
import Derived.Shelf.Abstract
import Derived.Shelf.RegionOpen
import Derived.WalkKit
import Derived.OwnWalkIn
import Derived.TacticsInMore
import Derived.LoopNIn
import Derived.LoopIn
open Go
namespace Go.Fw
set_option maxRecDepth 100000
theorem z2s{a b:Int}(h1:CV.lit (.bool (decide (a<0)))=CV.lit (.bool (decide (b<0))))(h2:X3 (bytesOf a.natAbs)=X3 (bytesOf b.natAbs)):a=b:=by
 have e2:=z5j (z2L h2)
 injection h1 with h1
 injection h1 with h1
 rw[decide_eq_decide]at h1
 omega
theorem zf7{x y:K}(h:zbs x=zbs y):x=y:=by
 unfold zbs at h
 simp only[List.cons.injEq,and_true]at h
 obtain⟨a0,b0,a1,b1,a2,b2,a3,b3,a4,b4⟩:=h
 have e0:=z2s a0 b0
 have e1:=z2s a1 b1
 have e2:=z2s a2 b2
 have e3:=z2s a3 b3
 have e4:=z2s a4 b4
 cases x
 cases y
 simp only at e0 e1 e2 e3 e4
 subst e0 e1 e2 e3 e4
 rfl
noncomputable def toO(x:RN):Option K:=if h:x.ok=true then some (RN.ok_k h).choose else none
def ofO:Option K→RN
 |none=> .zero
 |some k=> .ofK k
theorem zgB{x:RN}(h:x.ok=true): ∃k,toO x=some k∧x.l=zbs k:=⟨(RN.ok_k h).choose,dif_pos h,(RN.ok_k h).choose_spec⟩
theorem z7f{x:RN}(h:x.ok=false):toO x=none:=dif_neg (by rw[h];decide)
theorem z6M(k:K):toO (.ofK k)=some k:=by
 obtain⟨k',h1,h2⟩:=zgB (RN.ofK_ok k)
 rw[RN.ofK_l]at h2
 rw[h1,zf7 h2]
theorem z3M:toO .zero=none:=z7f (by decide)
theorem z70(o:Option K):toO (ofO o)=o:=by
 cases o with
 |none=>exact z3M
 |some k=>exact z6M k
theorem z0Z{x:RN}{k:K}(h:toO x=some k):x.ok=true∧x.l=zbs k:=by
 cases e:x.ok
 · rw[z7f e]at h;cases h
 · obtain⟨k',h1,h2⟩:=zgB e
   rw[h1]at h
   injection h with h
   subst h
   exact⟨rfl,h2⟩
theorem z0d{x:RN}(h:toO x=none):x.ok=false:=by
 cases e:x.ok
 · rfl
 · obtain⟨k',h1,_⟩:=zgB e
   rw[h1]at h;cases h
theorem zbH{x:RN}{k:K}(h:x.l=zbs k):x.c=Z9 k:=by
 show CV.agg x.l=_
 rw[h];rfl
def osz:Option K→Nat
 |none=>0
 |some k=>k.sz
theorem z0U{o:Option K}{n:Nat}(h:osz o≤n):(ofO o).raw n=true:=by
 cases o with
 |none=>
  show RN.raw n .zero=true
  have h0:decide ((⟨#[]⟩:ByteArray).size≤n)=true:=decide_eq_true (Nat.zero_le _)
  show(decide ((⟨#[]⟩:ByteArray).size≤n)&&decide ((⟨#[]⟩:ByteArray).size≤n)&&decide ((⟨#[]⟩:ByteArray).size≤n)&&decide ((⟨#[]⟩:ByteArray).size≤n)&&decide ((⟨#[]⟩:ByteArray).size≤n))=true
  generalize decide ((⟨#[]⟩:ByteArray).size≤n)=q at h0
  subst h0;rfl
 |some k=>exact RN.ofK_raw k h
theorem z15{x:RN}{n:Nat}(h:x.raw n=true):osz (toO x)≤n:=by
 cases e:toO x with
 |none=>exact Nat.zero_le _
 |some k=>exact zpX (z0Z e).2 h
def zpU:Option K→Option K→Option K
 |some x,some y=>some (x*y)
 |_,_=>none
def zph:Option K→Option K→Option K
 |some x,some y=>some (x+y)
 |_,_=>none
def zpm:Option K→Option K→Option K
 |some x,some y=>some (x-y)
 |_,_=>none
def zoZ:Option K→Option K
 |some x=>some (-x)
 |none=>none
theorem zhL(x y:Option K):osz (zpU x y)≤osz x+osz y+1:=by
 cases x<;>cases y<;>first|exact Nat.zero_le _|exact K.sz_mul _ _
theorem zdv(x y:Option K):osz (zph x y)≤osz x+osz y+1:=by
 cases x<;>cases y<;>first|exact Nat.zero_le _|exact K.sz_add _ _
theorem ziy(x y:Option K):osz (zpm x y)≤osz x+osz y+1:=by
 cases x<;>cases y<;>first|exact Nat.zero_le _|exact K.sz_sub _ _
theorem zdE(x:Option K):osz (zoZ x)=osz x:=by
 cases x
 · rfl
 · exact K.sz_neg _
end Go.Fw
open Go IntKind
namespace Go.Fw
set_option maxRecDepth 100000
theorem zi5(x y:RN)(g:x.ok=false)(s4_0:RN.raw 1000000 x=true):PCall P 37 [x.c,y.c] (.agg z0w):=
 j5 (.r 4 ((z2X (x) s4_0).eqB g) (.c (lq 10 10) .nil)) (by kernel_rfl)
theorem zjV(x y:RN)(g:x.ok=true)(g2:y.ok=false)(s4_0:RN.raw 1000000 x=true)(s8_0:RN.raw 1000000 y=true):PCall P 37 [x.c,y.c] (.agg z0w):=
 j5 (.r 4 ((z2X (x) s4_0).eqB g) (.r 8 ((z2X (y) s8_0).eqB g2) (.c (lq 10 10) .nil))) (by kernel_rfl)
theorem zhr(x:RN)(g:x.ok=false)(s3_0:RN.raw 1000000 x=true):PCall P 41 [x.c] (.agg z0w):=
 j5 (.r 3 ((z2X (x) s3_0).eqB g) (.c (lq 10 10) .nil)) (by kernel_rfl)
end Go.Fw
open Go
namespace Go.Fw
set_option maxRecDepth 100000
theorem z1d{x:RN}{k:K}{n:Nat}(h:toO x=some k)(hx:x.raw n=true):k.sz≤n:=zpX (z0Z h).2 hx
noncomputable def z2S(x y:RN):RN:=ofO (zph (toO x) (toO y))
noncomputable def z4U(x y:RN):RN:=ofO (zpm (toO x) (toO y))
noncomputable def zb7(x y:RN):RN:=ofO (zpU (toO x) (toO y))
noncomputable def zas(x:RN):RN:=ofO (zoZ (toO x))
theorem zap(x:RN):toO (zas x)=zoZ (toO x):=z70 _
theorem zoM(x y:RN)(hx:x.raw 1000000=true)(hy:y.raw 1000000=true):PCall P 37 [x.c,y.c] (z2S x y).c:=by
 unfold z2S
 cases ex:toO x with
 |none=>exact zi5 x y (z0d ex) hx
 |some k=>
  cases ey:toO y with
  |none=>exact zjV x y (z0Z ex).1 (z0d ey) hx hy
  |some l=>
   rw[zbH (z0Z ex).2,zbH (z0Z ey).2]
   exact zoe k l (z1d ex hx) (z1d ey hy)
theorem znP(x:RN)(hx:x.raw 1000000=true):PCall P 41 [x.c] (zas x).c:=by
 unfold zas
 cases ex:toO x with
 |none=>exact zhr x (z0d ex) hx
 |some k=>
  rw[zbH (z0Z ex).2]
  exact zoA k (z1d ex hx)
theorem zn2(x y:Option K):zph x (zoZ y)=zpm x y:=by
 cases x<;>cases y<;>rfl
theorem znQ{x y z:RN}{k l m:K}(hx:toO x=some k)(hy:toO y=some l)(hz:toO z=some m):z5D x y z=z99 k l m:=by
 unfold z5D z99
 rw[(z0Z hx).2,(z0Z hy).2,(z0Z hz).2]
theorem zev{x y z:RN}(h:toO x=none∨toO y=none∨toO z=none):ok3 x y z=false:=by
 unfold ok3
 rcases h with h|h|h<;>rw[z0d h]<;>simp
abbrev rnB(x y:RN):Bool:=x.b0==y.b0&&(x.s0==y.s0&&true)&&(x.b1==y.b1&&(x.s1==y.s1&&true)&&(x.b2==y.b2&&(x.s2==y.s2&&true)&&(x.b3==y.b3&&(x.s3==y.s3&&true)&&true)))&&(x.b4==y.b4&&(x.s4==y.s4&&true)&&true)
theorem ziu{x y:RN}:rnB x y=true↔x=y:=by
 cases x
 cases y
 simp only[rnB,zh4,Bool.and_eq_true,beq_iff_eq,and_true,RN.mk.injEq,decide_eq_true_eq]
 constructor
 · rintro⟨⟨h0,h1,h2,h3⟩,h4⟩
   exact⟨h0.1,h0.2,h1.1,h1.2,h2.1,h2.2,h3.1,h3.2,h4.1,h4.2⟩
 · rintro⟨a,b,c,d,e,f,g,h,i,j⟩
   exact⟨⟨⟨a,b⟩,⟨c,d⟩,⟨e,f⟩,⟨g,h⟩⟩,i,j⟩
end Go.Fw
open Go IntKind
namespace Go.Fw
set_option maxRecDepth 100000
theorem zjD(x y:RN)(s5_0:RN.raw 1000000 y=true)(s6_0:RN.raw 1000000 x=true)(s6_1:RN.raw 1000000 (zas y)=true):PCall P 39 [x.c,y.c] (RN.c (z2S x (zas y))):=
 j5 (.r 5 (znP (y) s5_0) (.r 6 (zoM (x) (zas y) s6_0 s6_1) (.c (lq 10 10) .nil))) (by kernel_rfl)
end Go.Fw
open Go
namespace Go.Fw
set_option maxRecDepth 100000
theorem zmj(x y:RN)(hx:x.raw 1000000=true)(hy:y.raw 1000000=true):PCall P 39 [x.c,y.c] (z4U x y).c:=by
 have h:=zjD x y hy hx (z0U (by rw[zdE];exact z15 hy))
 have e:z2S x (zas y)=z4U x y:=by unfold z2S z4U;rw[zap,zn2]
 rw[e]at h
 exact h
theorem zjw{x y:RN}{n:Nat}(hx:x.raw n=true)(hy:y.raw n=true):(z2S x y).raw (n+n+1)=true:=by
 have h1:=z15 hx
 have h2:=z15 hy
 have h3:=zdv (toO x) (toO y)
 exact z0U (by omega)
theorem zho{x:RN}{n:Nat}(hx:x.raw n=true):(zas x).raw n=true:=z0U (by rw[zdE];exact z15 hx)
end Go.Fw
open Go
namespace Go.Fw
set_option maxRecDepth 100000
structure VN where
 x:RN
 y:RN
 z:RN
namespace VN
def c(v:VN):CV:=z5D v.x v.y v.z
def raw(n:Nat)(v:VN):Bool:=zp5 n v.x v.y v.z
def ok(v:VN):Bool:=ok3 v.x v.y v.z
def zero:VN:=⟨.zero,.zero,.zero⟩
theorem raw_mono{v:VN}{n m:Nat}(h:v.raw n=true)(hm:n≤m):v.raw m=true:=by
 obtain⟨hx,hy,hz⟩:=z07.1 h
 exact z07.2 ⟨RN.raw_mono hx hm,RN.raw_mono hy hm,RN.raw_mono hz hm⟩
end VN
structure V3 where
 x:K
 y:K
 z:K
def V3.c(v:V3):CV:=z99 v.x v.y v.z
def V3.sz(v:V3):Nat:=max v.x.sz (max v.y.sz v.z.sz)
noncomputable def toV(v:VN):Option V3:=match toO v.x,toO v.y,toO v.z with
 |some x,some y,some z=>some ⟨x,y,z⟩
 |_,_,_=>none
def ofV:Option V3→VN
 |none=> .zero
 |some v=>⟨.ofK v.x,.ofK v.y,.ofK v.z⟩
theorem zcW(o:Option V3):toV (ofV o)=o:=by
 cases o with
 |none=>unfold toV ofV VN.zero;simp only[z3M]
 |some v=>unfold toV ofV;simp only[z6M]
theorem z7s{v:VN}{k:V3}(h:toV v=some k):toO v.x=some k.x∧toO v.y=some k.y∧toO v.z=some k.z:=by
 unfold toV at h
 split at h
 · rename_i x y z h1 h2 h3
   injection h with h
   subst h
   exact⟨h1,h2,h3⟩
 · cases h
theorem z4O{v:VN}(h:toV v=none):v.ok=false:=by
 unfold toV at h
 split at h
 · cases h
 · rename_i hx
   refine zev ?_
   cases e1:toO v.x with
   |none=>exact .inl rfl
   |some a=>
    cases e2:toO v.y with
    |none=>exact .inr (.inl rfl)
    |some b=>
     cases e3:toO v.z with
     |none=>exact .inr (.inr rfl)
     |some c=>exact(hx a b c e1 e2 e3).elim
theorem zc1{v:VN}{k:V3}(h:toV v=some k):v.ok=true:=by
 obtain⟨h1,h2,h3⟩:=z7s h
 show ok3 v.x v.y v.z=true
 unfold ok3
 rw[(z0Z h1).1,(z0Z h2).1,(z0Z h3).1];rfl
theorem zg9{v:VN}{k:V3}(h:toV v=some k):v.c=k.c:=by
 obtain⟨h1,h2,h3⟩:=z7s h
 exact znQ h1 h2 h3
theorem z1L{v:VN}{k:V3}{n:Nat}(h:toV v=some k)(hr:v.raw n=true):k.x.sz≤n∧k.y.sz≤n∧k.z.sz≤n:=by
 obtain⟨h1,h2,h3⟩:=z7s h
 obtain⟨a,b,c⟩:=z07.1 hr
 exact⟨z1d h1 a,z1d h2 b,z1d h3 c⟩
def vsz:Option V3→Nat
 |none=>0
 |some v=>v.sz
theorem z74{o:Option V3}{n:Nat}(h:vsz o≤n):(ofV o).raw n=true:=by
 cases o with
 |none=>exact z07.2 ⟨z0U (o:=none) (Nat.zero_le _),z0U (o:=none) (Nat.zero_le _),z0U (o:=none) (Nat.zero_le _)⟩
 |some v=>
  have h':max v.x.sz (max v.y.sz v.z.sz)≤n:=h
  exact z07.2 ⟨RN.ofK_raw v.x (by omega),RN.ofK_raw v.y (by omega),RN.ofK_raw v.z (by omega)⟩
end Go.Fw
open Go IntKind
namespace Go.Fw
set_option maxRecDepth 100000
theorem zhC(a b c:Int)(s2_0:(-9223372036854775808:Int)≤a∧a≤9223372036854775807)(s4_0:(-9223372036854775808:Int)≤b∧b≤9223372036854775807)(s6_0:(-9223372036854775808:Int)≤c∧c≤9223372036854775807):PCall P 63 [j6 a,j6 b,j6 c] (z99 (K.ofInt a) (K.ofInt b) (K.ofInt c)):=
 j5 (.r 2 (z5n (a) s2_0) (.r 4 (z5n (b) s4_0) (.r 6 (z5n (c) s6_0) (.c (lq 30 30) .nil)))) (by kernel_rfl)
end Go.Fw
open Go
namespace Go.Fw
set_option maxRecDepth 100000
namespace V3
def add(a b:V3):V3:=⟨a.x+b.x,a.y+b.y,a.z+b.z⟩
def sub(a b:V3):V3:=⟨a.x-b.x,a.y-b.y,a.z-b.z⟩
def neg(a:V3):V3:=⟨-a.x,-a.y,-a.z⟩
def scale(a:V3)(k:K):V3:=⟨a.x*k,a.y*k,a.z*k⟩
def dot(a b:V3):K:=a.x*b.x+a.y*b.y+a.z*b.z
def cross(a b:V3):V3:=⟨a.y*b.z-a.z*b.y,a.z*b.x-a.x*b.z,a.x*b.y-a.y*b.x⟩
end V3
def o2{α β γ:Type}(f:α→β→γ):Option α→Option β→Option γ
 |some a,some b=>some (f a b)
 |_,_=>none
noncomputable def z0t(v w:VN):VN:=ofV (o2 V3.add (toV v) (toV w))
noncomputable def J8(v:VN)(k:RN):VN:=ofV (o2 V3.scale (toV v) (toO k))
noncomputable def z50(v w:VN):RN:=ofO (o2 V3.dot (toV v) (toV w))
noncomputable def z3s(v w:VN):VN:=ofV (o2 V3.cross (toV v) (toV w))
end Go.Fw
open Go IntKind
namespace Go.Fw
set_option maxRecDepth 100000
theorem zjt(x y:RN)(g:x.ok=false)(s4_0:RN.raw 1000000 x=true):PCall P 137 [x.c,y.c] (.agg z0w):=
 j5 (.r 4 ((z2o (x) s4_0).eqB g) (.c (lq 10 10) .nil)) (by kernel_rfl)
theorem ziV(x y:RN)(g:x.ok=true)(g2:y.ok=false)(s4_0:RN.raw 1000000 x=true)(s8_0:RN.raw 1000000 y=true):PCall P 137 [x.c,y.c] (.agg z0w):=
 j5 (.r 4 ((z2o (x) s4_0).eqB g) (.r 8 ((z2o (y) s8_0).eqB g2) (.c (lq 10 10) .nil))) (by kernel_rfl)
theorem zjc(x y:RN)(g:x.ok=false)(s4_0:RN.raw 1000000 x=true):PCall P 136 [x.c,y.c] (.agg z0w):=
 j5 (.r 4 ((z2o (x) s4_0).eqB g) (.c (lq 10 10) .nil)) (by kernel_rfl)
theorem zi9(x y:RN)(g:x.ok=true)(g2:y.ok=false)(s4_0:RN.raw 1000000 x=true)(s8_0:RN.raw 1000000 y=true):PCall P 136 [x.c,y.c] (.agg z0w):=
 j5 (.r 4 ((z2o (x) s4_0).eqB g) (.r 8 ((z2o (y) s8_0).eqB g2) (.c (lq 10 10) .nil))) (by kernel_rfl)
theorem zhD(x:RN)(g:x.ok=false)(s3_0:RN.raw 1000000 x=true):PCall P 121 [x.c] (.agg z0w):=
 j5 (.r 3 ((z2o (x) s3_0).eqB g) (.c (lq 10 10) .nil)) (by kernel_rfl)
theorem zi3(x:RN)(g:x.ok=false)(s3_0:RN.raw 1000000 x=true):PCall P 146 [x.c] (.lit (.int .i64 0)):=
 j5 (.r 3 ((z2o (x) s3_0).eqB g) .nil) (by kernel_rfl)
theorem zj6(x y:RN)(g:x.ok=false)(s5_0:RN.raw 1000000 x=true):PCall P 147 [x.c,y.c] (.tup [.agg z0w,.lit (.int .i64 1)]):=
 j5 (.r 5 ((z2o (x) s5_0).eqB g) (.c (lq 10 10) .nil)) (by kernel_rfl)
theorem ziE(x y:RN)(g:x.ok=true)(g2:y.ok=false)(s5_0:RN.raw 1000000 x=true)(s9_0:RN.raw 1000000 y=true):PCall P 147 [x.c,y.c] (.tup [.agg z0w,.lit (.int .i64 1)]):=
 j5 (.r 5 ((z2o (x) s5_0).eqB g) (.r 9 ((z2o (y) s9_0).eqB g2) (.c (lq 10 10) .nil))) (by kernel_rfl)
end Go.Fw
open Go
namespace Go.Fw
set_option maxRecDepth 100000
theorem za6(x y:RN)(hx:x.raw 1000000=true)(hy:y.raw 1000000=true):PCall P 137 [x.c,y.c] (z2S x y).c:=by
 unfold z2S
 cases ex:toO x with
 |none=>exact zjt x y (z0d ex) hx
 |some k=>
  cases ey:toO y with
  |none=>exact ziV x y (z0Z ex).1 (z0d ey) hx hy
  |some l=>
   have a:=z1d ex hx
   have b:=z1d ey hy
   rw[zbH (z0Z ex).2,zbH (z0Z ey).2]
   exact z6D k l (by omega)
theorem zmY(x y:RN)(hx:x.raw 1000000=true)(hy:y.raw 1000000=true):PCall P 136 [x.c,y.c] (zb7 x y).c:=by
 unfold zb7
 cases ex:toO x with
 |none=>exact zjc x y (z0d ex) hx
 |some k=>
  cases ey:toO y with
  |none=>exact zi9 x y (z0Z ex).1 (z0d ey) hx hy
  |some l=>
   have a:=z1d ex hx
   have b:=z1d ey hy
   rw[zbH (z0Z ex).2,zbH (z0Z ey).2]
   exact z58 k l (by omega)
theorem zoz(x:RN)(hx:x.raw 1000000=true):PCall P 121 [x.c] (zas x).c:=by
 unfold zas
 cases ex:toO x with
 |none=>exact zhD x (z0d ex) hx
 |some k=>
  have a:=z1d ex hx
  rw[zbH (z0Z ex).2]
  exact z9X k (by simp only[Smk];omega)
end Go.Fw
open Go IntKind
namespace Go.Fw
set_option maxRecDepth 100000
theorem zla(a b c:Int)(h1:(a==b)=true):PCall P 208 [j6 a,j6 b,j6 c] (.lit (.int .i64 a)):=
 j5 (.b 4 h1 .nil) (by kernel_rfl)
theorem zlD(a b c:Int)(h1:(a==b)=false)(h2:(b==0)=true):PCall P 208 [j6 a,j6 b,j6 c] (.lit (.int .i64 a)):=
 j5 (.b 4 h1 (.b 9 h2 .nil)) (by kernel_rfl)
theorem zng(a b c:Int)(h1:(a==b)=false)(h2:(b==0)=false)(h3:(a==0)=true):PCall P 208 [j6 a,j6 b,j6 c] (.lit (.int .i64 b)):=
 j5 (.b 4 h1 (.b 9 h2 (.b 13 h3 .nil))) (by kernel_rfl)
theorem zna(a b c:Int)(h1:(a==b)=false)(h2:(b==0)=false)(h3:(a==0)=false):PCall P 208 [j6 a,j6 b,j6 c] (.lit (.int .i64 (i64.wrap (a*c)))):=
 j5 (.b 4 h1 (.b 9 h2 (.b 13 h3 .nil))) (by kernel_rfl)
theorem zlv(k a b:Int)(s4_0:(-9223372036854775808:Int)≤k∧k≤9223372036854775807)(s7_0:SmlZ a)(s7_1:SmlZ b)(s7_2:Sml (a.natAbs*b.natAbs))(s8_0:SmlZ k)(s8_1:SmlZ (a*b))(s8_2:Sml (k.natAbs*(a*b).natAbs)):PCall P 210 [j6 k,J6 a,J6 b] (.agg [.lit (.bool (decide (k*(a*b)<0))),.lit (.string (bytesOf (k*(a*b)).natAbs))]):=
 j5 (.r 4 (z1b (k) s4_0) (.r 7 (U9 (a) (b) s7_0 s7_1 s7_2) (.r 8 (U9 (k) (a*b) s8_0 s8_1 s8_2) (.c (lq 2 2) .nil)))) (by kernel_rfl)
end Go.Fw
open Go
namespace Go.Fw
set_option maxRecDepth 100000
def z4J(a b c:Int):Int:=if a=b∨b=0 then a else if a=0 then b else a*c
theorem z2z(a b c:Int)(ha: -1≤a∧a≤1)(hc: -1≤c∧c≤1):PCall P 208 [j6 a,j6 b,j6 c] (j6 (z4J a b c)):=by
 unfold z4J
 by_cases h1:a=b
 · rw[if_pos (.inl h1)]
   exact zla a b c (by simp[h1])
 · by_cases h2:b=0
   · rw[if_pos (.inr h2)]
     exact zlD a b c (by simp[h1]) (by simp[h2])
   · rw[if_neg (by rintro(h|h)<;>contradiction)]
     by_cases h3:a=0
     · rw[if_pos h3]
       exact zng a b c (by simp[h1]) (by simp[h2]) (by simp[h3])
     · rw[if_neg h3]
       have:=zna a b c (by simp[h1]) (by simp[h2]) (by simp[h3])
       have hw:IntKind.i64.wrap (a*c)=a*c:=by
        have:a= -1∨a=1:=by omega
        rcases this with h|h<;>rw[h]<;>exact w64 (by omega)
       rwa[hw]at this
theorem z8T(k a b:Int){n m:Nat}(hk: -100≤k∧k≤100)(ha:By n a)(hb:By m b)(hn:n+m+1<1073741824):PCall P 210 [j6 k,J6 a,J6 b] (J6 (k*(a*b))):=by
 have hk':By 1 k:=by unfold By;omega
 have hab:=ha.mul hb
 exact zlv k a b (by omega) (ha.sml (by omega)) (hb.sml (by omega)) (ha.sm2 hb (by omega)) (hk'.sml (by decide)) (hab.sml (by omega)) (hk'.sm2 hab (by omega))
end Go.Fw
open Go IntKind
namespace Go.Fw
set_option maxRecDepth 100000
theorem znS(a b:Int)(s5_0:SmlZ a)(s5_1:SmlZ b)(s5_2:Sml (a.natAbs+b.natAbs)):PCall P 246 [J6 a,J6 b] (.lit (.int .i64 (a-b).sign)):=
 j5 (.r 5 (zag (a) (b) s5_0 s5_1 s5_2) (.r 6 (z0Q (a-b)) .nil)) (by kernel_rfl)
end Go.Fw
open Go
namespace Go.Fw
set_option maxRecDepth 100000
def Two(a b:Int):Prop:= ∃n,n≤500000000∧By n a∧By n b
theorem z2d(k a b:Int)(hk: -100≤k∧k≤100)(h:Two a b):PCall P 210 [j6 k,J6 a,J6 b] (J6 (k*(a*b))):=by
 obtain⟨n,hn,ha,hb⟩:=h
 exact z8T k a b hk ha hb (by omega)
theorem zbU(a b:Int)(h:Two a b):PCall P 246 [J6 a,J6 b] (j6 (a-b).sign):=by
 obtain⟨n,hn,ha,hb⟩:=h
 exact znS a b (ha.sml (by omega)) (hb.sml (by omega)) (ha.sma hb (by omega))
theorem zmT(a b:Int)(h:Two a b):PCall P 203 [J6 a,J6 b] (J6 (a*b)):=by
 obtain⟨n,hn,ha,hb⟩:=h
 exact U9 a b (ha.sml (by omega)) (hb.sml (by omega)) (ha.sm2 hb (by omega))
theorem zgY(a b:Int)(h:Two a b):PCall P 202 [J6 a,J6 b] (J6 (a+b)):=by
 obtain⟨n,hn,ha,hb⟩:=h
 exact z2b a b (ha.sml (by omega)) (hb.sml (by omega)) (ha.sma hb (by omega))
theorem zgM(a b:Int)(h:Two a b):PCall P 209 [J6 a,J6 b] (J6 (a-b)):=by
 obtain⟨n,hn,ha,hb⟩:=h
 exact zag a b (ha.sml (by omega)) (hb.sml (by omega)) (ha.sma hb (by omega))
end Go.Fw
open Go IntKind
namespace Go.Fw
set_option maxRecDepth 100000
theorem znd(a b:Int)(s9_0:Two a a)(s12_0:(-100:Int)≤2∧(2:Int)≤100)(s12_1:Two b b)(s13_0:Two (a*a) ((2:Int)*(b*b)))(s14_0:(-1:Int)≤a.sign∧a.sign≤1)(s14_1:(-1:Int)≤(a*a-2*(b*b)).sign∧(a*a-2*(b*b)).sign≤1):PCall P 207 [J6 a,J6 b] (.lit (.int .i64 (z4J a.sign b.sign (a*a-2*(b*b)).sign))):=
 j5 (.r 4 (z0Q (a)) (.r 6 (z0Q (b)) (.r 9 (zmT (a) (a) s9_0) (.r 12 (z2d ((2:Int)) (b) (b) s12_0 s12_1) (.r 13 (zbU (a*a) ((2:Int)*(b*b)) s13_0) (.r 14 (z2z (a.sign) (b.sign) ((a*a-2*(b*b)).sign) s14_0 s14_1) .nil)))))) (by kernel_rfl)
end Go.Fw
open Go
namespace Go.Fw
set_option maxRecDepth 100000
def sg2(a b:Int):Int:=z4J a.sign b.sign (a*a-2*(b*b)).sign
theorem z37(a:Int): -1≤a.sign∧a.sign≤1:=by
 rcases Int.lt_trichotomy a 0 with h|h|h
 · rw[Int.sign_eq_neg_one_of_neg h];decide
 · rw[h];decide
 · rw[Int.sign_eq_one_of_pos h];decide
theorem zi0{a b c:Int}(ha: -1≤a∧a≤1)(hb: -1≤b∧b≤1)(hc: -1≤c∧c≤1): -1≤z4J a b c∧z4J a b c≤1:=by
 unfold z4J
 split
 · exact ha
 · split
   · exact hb
   · have:a= -1∨a=0∨a=1:=by omega
     rcases this with h|h|h<;>rw[h]<;>omega
theorem z9A(a b:Int): -1≤sg2 a b∧sg2 a b≤1:=zi0 (z37 a) (z37 b) (z37 _)
def z57(a b:Int):Prop:= ∃n,n≤100000000∧By n a∧By n b
theorem By.two{a:Int}{n:Nat}(h:By n a):By (n+1) (2*a):=by
 have:By 1 2:=by unfold By;decide
 have:=this.mul h
 rwa[Nat.add_comm]at this
theorem z11(a b:Int)(h:z57 a b):PCall P 207 [J6 a,J6 b] (j6 (sg2 a b)):=by
 obtain⟨n,hn,ha,hb⟩:=h
 exact znd a b ⟨n,by omega,ha,ha⟩ (by decide) ⟨n,by omega,hb,hb⟩ ⟨n+n+1,by omega,(ha.mul ha).mono (by omega),(hb.mul hb).two⟩ (z37 _) (z37 _)
end Go.Fw
open Go IntKind
namespace Go.Fw
set_option maxRecDepth 100000
theorem znl(x:K)(h1:(sg2 x.c0 x.c1==sg2 x.c2 x.c3)=true)(s3_0:Smk x)(s28_0:z57 x.c0 x.c1)(s31_0:z57 x.c2 x.c3)(s48_0:(-1:Int)≤sg2 x.c0 x.c1∧sg2 x.c0 x.c1≤1)(s48_1:(-1:Int)≤0∧(0:Int)≤1):PCall P 146 [Z9 x] (.lit (.int .i64 (z4J (sg2 x.c0 x.c1) (sg2 x.c2 x.c3) (0:Int)))):=
 j5 (.r 3 (z0e (x) s3_0) (.c (bq 0 4) (.c (bq 1 4) (.c (bq 2 4) (.c (bq 3 4) (.c (lq 2 2) (.c (lq 2 2) (.c (lq 2 2) (.c (lq 2 2) (.r 28 (z11 (x.c0) (x.c1) s28_0) (.r 31 (z11 (x.c2) (x.c3) s31_0) (.b 37 h1 (.r 48 (z2z (sg2 x.c0 x.c1) (sg2 x.c2 x.c3) ((0:Int)) s48_0 s48_1) .nil))))))))))))) (by kernel_rfl)
theorem zl4(x:K)(h1:(sg2 x.c0 x.c1==sg2 x.c2 x.c3)=false)(h2:(sg2 x.c2 x.c3==0)=true)(s3_0:Smk x)(s28_0:z57 x.c0 x.c1)(s31_0:z57 x.c2 x.c3)(s48_0:(-1:Int)≤sg2 x.c0 x.c1∧sg2 x.c0 x.c1≤1)(s48_1:(-1:Int)≤0∧(0:Int)≤1):PCall P 146 [Z9 x] (.lit (.int .i64 (z4J (sg2 x.c0 x.c1) (sg2 x.c2 x.c3) (0:Int)))):=
 j5 (.r 3 (z0e (x) s3_0) (.c (bq 0 4) (.c (bq 1 4) (.c (bq 2 4) (.c (bq 3 4) (.c (lq 2 2) (.c (lq 2 2) (.c (lq 2 2) (.c (lq 2 2) (.r 28 (z11 (x.c0) (x.c1) s28_0) (.r 31 (z11 (x.c2) (x.c3) s31_0) (.b 37 h1 (.b 41 h2 (.r 48 (z2z (sg2 x.c0 x.c1) (sg2 x.c2 x.c3) ((0:Int)) s48_0 s48_1) .nil)))))))))))))) (by kernel_rfl)
theorem zlF(x:K)(h1:(sg2 x.c0 x.c1==sg2 x.c2 x.c3)=false)(h2:(sg2 x.c2 x.c3==0)=false)(h3:(sg2 x.c0 x.c1==0)=true)(s3_0:Smk x)(s28_0:z57 x.c0 x.c1)(s31_0:z57 x.c2 x.c3)(s48_0:(-1:Int)≤sg2 x.c0 x.c1∧sg2 x.c0 x.c1≤1)(s48_1:(-1:Int)≤0∧(0:Int)≤1):PCall P 146 [Z9 x] (.lit (.int .i64 (z4J (sg2 x.c0 x.c1) (sg2 x.c2 x.c3) (0:Int)))):=
 j5 (.r 3 (z0e (x) s3_0) (.c (bq 0 4) (.c (bq 1 4) (.c (bq 2 4) (.c (bq 3 4) (.c (lq 2 2) (.c (lq 2 2) (.c (lq 2 2) (.c (lq 2 2) (.r 28 (z11 (x.c0) (x.c1) s28_0) (.r 31 (z11 (x.c2) (x.c3) s31_0) (.b 37 h1 (.b 41 h2 (.b 45 h3 (.r 48 (z2z (sg2 x.c0 x.c1) (sg2 x.c2 x.c3) ((0:Int)) s48_0 s48_1) .nil))))))))))))))) (by kernel_rfl)
theorem zoE(x:K)(h1:(sg2 x.c0 x.c1==sg2 x.c2 x.c3)=false)(h2:(sg2 x.c2 x.c3==0)=false)(h3:(sg2 x.c0 x.c1==0)=false)(s3_0:Smk x)(s28_0:z57 x.c0 x.c1)(s31_0:z57 x.c2 x.c3)(s48_0:(-100:Int)≤1∧(1:Int)≤100)(s48_1:Two x.c0 x.c0)(s51_0:(-100:Int)≤2∧(2:Int)≤100)(s51_1:Two x.c1 x.c1)(s52_0:Two ((1:Int)*(x.c0*x.c0)) ((2:Int)*(x.c1*x.c1)))(s55_0:(-100:Int)≤3∧(3:Int)≤100)(s55_1:Two x.c2 x.c2)(s58_0:(-100:Int)≤6∧(6:Int)≤100)(s58_1:Two x.c3 x.c3)(s59_0:Two ((3:Int)*(x.c2*x.c2)) ((6:Int)*(x.c3*x.c3)))(s60_0:Two ((1:Int)*(x.c0*x.c0)+2*(x.c1*x.c1)) ((3:Int)*(x.c2*x.c2)+6*(x.c3*x.c3)))(s65_0:(-100:Int)≤2∧(2:Int)≤100)(s65_1:Two x.c0 x.c1)(s68_0:(-100:Int)≤6∧(6:Int)≤100)(s68_1:Two x.c2 x.c3)(s69_0:Two ((2:Int)*(x.c0*x.c1)) ((6:Int)*(x.c2*x.c3)))(s76_0:z57 ((1:Int)*(x.c0*x.c0)+2*(x.c1*x.c1)-((3:Int)*(x.c2*x.c2)+6*(x.c3*x.c3))) ((2:Int)*(x.c0*x.c1)-6*(x.c2*x.c3)))(s77_0:(-1:Int)≤sg2 x.c0 x.c1∧sg2 x.c0 x.c1≤1)(s77_1:(-1:Int)≤sg2 ((1:Int)*(x.c0*x.c0)+2*(x.c1*x.c1)-((3:Int)*(x.c2*x.c2)+6*(x.c3*x.c3))) ((2:Int)*(x.c0*x.c1)-6*(x.c2*x.c3))∧sg2 ((1:Int)*(x.c0*x.c0)+2*(x.c1*x.c1)-((3:Int)*(x.c2*x.c2)+6*(x.c3*x.c3))) ((2:Int)*(x.c0*x.c1)-6*(x.c2*x.c3))≤1):PCall P 146 [Z9 x] (.lit (.int .i64 (z4J (sg2 x.c0 x.c1) (sg2 x.c2 x.c3) (sg2 ((1:Int)*(x.c0*x.c0)+2*(x.c1*x.c1)-((3:Int)*(x.c2*x.c2)+6*(x.c3*x.c3))) ((2:Int)*(x.c0*x.c1)-6*(x.c2*x.c3)))))):=
 j5 (.r 3 (z0e (x) s3_0) (.c (bq 0 4) (.c (bq 1 4) (.c (bq 2 4) (.c (bq 3 4) (.c (lq 2 2) (.c (lq 2 2) (.c (lq 2 2) (.c (lq 2 2) (.r 28 (z11 (x.c0) (x.c1) s28_0) (.r 31 (z11 (x.c2) (x.c3) s31_0) (.b 37 h1 (.b 41 h2 (.b 45 h3 (.r 48 (z2d ((1:Int)) (x.c0) (x.c0) s48_0 s48_1) (.r 51 (z2d ((2:Int)) (x.c1) (x.c1) s51_0 s51_1) (.r 52 (zgY ((1:Int)*(x.c0*x.c0)) ((2:Int)*(x.c1*x.c1)) s52_0) (.r 55 (z2d ((3:Int)) (x.c2) (x.c2) s55_0 s55_1) (.r 58 (z2d ((6:Int)) (x.c3) (x.c3) s58_0 s58_1) (.r 59 (zgY ((3:Int)*(x.c2*x.c2)) ((6:Int)*(x.c3*x.c3)) s59_0) (.r 60 (zgM ((1:Int)*(x.c0*x.c0)+2*(x.c1*x.c1)) ((3:Int)*(x.c2*x.c2)+6*(x.c3*x.c3)) s60_0) (.c (lq 2 2) (.r 65 (z2d ((2:Int)) (x.c0) (x.c1) s65_0 s65_1) (.r 68 (z2d ((6:Int)) (x.c2) (x.c3) s68_0 s68_1) (.r 69 (zgM ((2:Int)*(x.c0*x.c1)) ((6:Int)*(x.c2*x.c3)) s69_0) (.c (lq 2 2) (.r 76 (z11 ((1:Int)*(x.c0*x.c0)+2*(x.c1*x.c1)-((3:Int)*(x.c2*x.c2)+6*(x.c3*x.c3))) ((2:Int)*(x.c0*x.c1)-6*(x.c2*x.c3)) s76_0) (.r 77 (z2z (sg2 x.c0 x.c1) (sg2 x.c2 x.c3) (sg2 ((1:Int)*(x.c0*x.c0)+2*(x.c1*x.c1)-((3:Int)*(x.c2*x.c2)+6*(x.c3*x.c3))) ((2:Int)*(x.c0*x.c1)-6*(x.c2*x.c3))) s77_0 s77_1) .nil)))))))))))))))))))))))))))) (by kernel_rfl)
end Go.Fw
open Go
namespace Go.Fw
set_option maxRecDepth 100000
section
variable{R:Type}[CR R][Sg R] {m:R}[im:Sg.Irr m]
theorem Adj.sg_mix(x:Adj R m):Adj.sg x=z4J (Sg.sg x.re) (Sg.sg x.im) (Sg.sg (Adj.nm x)):=by
 have hz:=Adj.nm_zero x
 rcases Sg.vals (Adj.nm x)with hn|hn|hn
 · -- the second part is the greater
   have hi:=Adj.im_ne hn
   have e:Adj.sg x=Sg.sg x.im:=by unfold Adj.sg;rw[hn,if_neg (by decide),if_pos rfl]
   rw[e,hn]
   unfold z4J
   rcases Sg.vals x.re with ha|ha|ha<;>rcases Sg.vals x.im with hb|hb|hb<;>rw[ha,hb]<;>first|rfl|exact absurd hb hi
 · have e:Adj.sg x=0:=by unfold Adj.sg;rw[hn,if_neg (by decide),if_neg (by decide)]
   have h0:=hz.1 hn
   have hr:Sg.sg x.re=0:=by rw[h0];exact(Sg.zero _).2 rfl
   have hi:Sg.sg x.im=0:=by rw[h0];exact(Sg.zero _).2 rfl
   rw[e,hr,hi];rfl
 · have hr:=Adj.re_ne hn
   have e:Adj.sg x=Sg.sg x.re:=by unfold Adj.sg;rw[hn,if_pos rfl]
   rw[e,hn]
   unfold z4J
   rcases Sg.vals x.re with ha|ha|ha<;>rcases Sg.vals x.im with hb|hb|hb<;>rw[ha,hb]<;>first|rfl|exact absurd ha hr
end
theorem ze8(a b:Int):sg2 a b=Adj.sg (⟨a,b⟩:Z2):=by
 rw[Adj.sg_mix];rfl
theorem z2Q{a b c c':Int}(h:a=b∨b=0∨a=0):z4J a b c=z4J a b c':=by
 unfold z4J
 rcases h with h|h|h
 · rw[if_pos (.inl h),if_pos (.inl h)]
 · rw[if_pos (.inr h),if_pos (.inr h)]
 · rw[if_pos h,if_pos h]
def zoY(x:K):Int:=z4J (sg2 x.c0 x.c1) (sg2 x.c2 x.c3) (sg2 (1*(x.c0*x.c0)+2*(x.c1*x.c1)-(3*(x.c2*x.c2)+6*(x.c3*x.c3))) (2*(x.c0*x.c1)-6*(x.c2*x.c3)))
theorem zcv(x:K):zoY x=K.sgn x:=by
 show _=Adj.sg (K.num x)
 rw[Adj.sg_mix]
 unfold zoY
 rw[ze8,ze8,ze8]
 show z4J _ _ _=z4J (Adj.sg (K.num x).re) (Adj.sg (K.num x).im) (Adj.sg (Adj.nm (K.num x)))
 congr 2
 refine Adj.ext ?_ ?_
 · show 1*(x.c0*x.c0)+2*(x.c1*x.c1)-(3*(x.c2*x.c2)+6*(x.c3*x.c3))=x.c0*x.c0+2*(x.c1*x.c1)-(3*(x.c2*x.c2+2*(x.c3*x.c3))+2*(0*(x.c2*x.c3+x.c3*x.c2)))
   grind
 · show 2*(x.c0*x.c1)-6*(x.c2*x.c3)=x.c0*x.c1+x.c1*x.c0-(3*(x.c2*x.c3+x.c3*x.c2)+0*(x.c2*x.c2+2*(x.c3*x.c3)))
   grind
end Go.Fw
open Go
namespace Go.Fw
set_option maxRecDepth 100000
theorem By.k{a k:Int}{n:Nat}(hk: -100≤k∧k≤100)(h:By n a):By (n+1) (k*a):=by
 have:By 1 k:=by unfold By;omega
 have:=this.mul h
 rwa[Nat.add_comm]at this
theorem By.sub{a b:Int}{n:Nat}(h:By n a)(k:By n b):By (n+1) (a-b):=by
 have:=h.add k.neg
 rwa[←Int.sub_eq_add_neg]at this
theorem zhx(x:K)(hx:x.sz≤10000000):PCall P 146 [Z9 x] (j6 (K.sgn x)):=by
 obtain⟨x0,x1,x2,x3,_⟩:=By.of_sz hx
 have hs:Smk x:=by simp only[Smk];omega
 have t01:z57 x.c0 x.c1:=⟨_,by decide,x0,x1⟩
 have t23:z57 x.c2 x.c3:=⟨_,by decide,x2,x3⟩
 have b1:=z9A x.c0 x.c1
 rw[←zcv]
 unfold zoY
 by_cases h1:sg2 x.c0 x.c1=sg2 x.c2 x.c3
 · rw[z2Q (c':=0) (.inl h1)]
   exact znl x (by simp[h1]) hs t01 t23 b1 (by decide)
 · by_cases h2:sg2 x.c2 x.c3=0
   · rw[z2Q (c':=0) (.inr (.inl h2))]
     exact zl4 x (beq_false_of_ne h1) (by simp[h2]) hs t01 t23 b1 (by decide)
   · by_cases h3:sg2 x.c0 x.c1=0
     · rw[z2Q (c':=0) (.inr (.inr h3))]
       exact zlF x (beq_false_of_ne h1) (beq_false_of_ne h2) (by simp[h3]) hs t01 t23 b1 (by decide)
     · obtain⟨n,hn,hy⟩: ∃n,n≤10000000∧x.sz≤n:=⟨_,Nat.le_refl _,hx⟩
       obtain⟨y0,y1,y2,y3,_⟩:=By.of_sz hy
       have tw: ∀{a b:Int},By n a→By n b→Two a b:=fun ha hb=>⟨n,by omega,ha,hb⟩
       have q0:=(y0.mul y0).k (k:=1) (by decide)
       have q1:=(y1.mul y1).k (k:=2) (by decide)
       have q2:=(y2.mul y2).k (k:=3) (by decide)
       have q3:=(y3.mul y3).k (k:=6) (by decide)
       have r1:=(y0.mul y1).k (k:=2) (by decide)
       have r2:=(y2.mul y3).k (k:=6) (by decide)
       have u1:=q0.add q1
       have u2:=q2.add q3
       exact zoE x (beq_false_of_ne h1) (beq_false_of_ne h2) (beq_false_of_ne h3) hs t01 t23 (by decide) (tw y0 y0) (by decide) (tw y1 y1) ⟨_,by omega,q0,q1⟩ (by decide) (tw y2 y2) (by decide) (tw y3 y3) ⟨_,by omega,q2,q3⟩ ⟨_,by omega,u1,u2⟩
        (by decide) (tw y0 y1) (by decide) (tw y2 y3) ⟨_,by omega,r1,r2⟩ ⟨_,by omega,u1.sub u2,(r1.sub r2).mono (Nat.le_succ _)⟩ b1 (z9A _ _)
noncomputable def z8L(x:RN):Int:=match toO x with
 |some k=>K.sgn k
 |none=>0
theorem zcg(x:RN)(hx:x.raw 1000000=true):PCall P 146 [x.c] (j6 (z8L x)):=by
 unfold z8L
 cases ex:toO x with
 |none=>exact zi3 x (z0d ex) hx
 |some k=>
  have a:=z1d ex hx
  rw[zbH (z0Z ex).2]
  exact zhx k (by omega)
end Go.Fw
open Go Go.RowKit Go.Shelf Go.Proofs
namespace Go.Fw
section
variable{F:Fence}{n:Nat}{P:Program}{ops:Array Oper}{Q:Exit→Act→World→Prop}{a:Act}{w w':World}{rest:List Oper}{o:Oper}
theorem z2W {T : TypeId} {p : Operand} {d : Value} {v : Value} (hg : o.guard = none) (hop : o.op = .load T p) (hp : a.eval p = d) (hrun : (Instr.loadAt T d).run P w = .ok v w)
    (hk:wpListIn F n P ops Q rest (a.put o.dst v) w):wpListIn F n P ops Q (o::rest) a w:=by
 refine wpListIn_plain hg fun K hK=>?_
 refine⟨fun f hf=>?_,?_⟩
 · simp[Oper.about,hop]at hf
 · have hr:(execOp a.eval o).run P w= .ok (.value v) w:=by unfold execOp;rw[hop];simp only[hp];simp[hrun]
   rw[Oper.semAt_eq _ _ _ (by simp[hop]),hr]
   exact hK _ _ hk
theorem z5y {T : TypeId} {p x : Operand} {d v : Value} (hg : o.guard = none) (hop : o.op = .store T p x) (hp : a.eval p = d) (hx : a.eval x = v) (hrun : (Instr.storeAt T d v).run P w = .ok () w')
    (hk:wpListIn F n P ops Q rest (a.put o.dst undef) w'):wpListIn F n P ops Q (o::rest) a w:=by
 refine wpListIn_plain hg fun K hK=>?_
 refine⟨fun f hf=>?_,?_⟩
 · simp[Oper.about,hop]at hf
 · have hr:(execOp a.eval o).run P w= .ok .skip w':=by unfold execOp;rw[hop];simp only[hp,hx];simp[hrun]
   rw[Oper.semAt_eq _ _ _ (by simp[hop]),hr]
   exact hK _ _ hk
end
theorem z9S {T : TypeId} {fs : Array Field} {w : World} {b off : Nat} {c : Array Value} {t : TypeId} {fz : Nat × Nat} {v : Array Value} (hu : P.underlying T = some (.struct fs)) (hb : w.heap[b]? = some (.cells c t fz))
    (hv:v.toList=(c.toList.drop off).take (P.cellsOf T)) (hs:v.size=P.cellsOf T):(Instr.loadAt T (.pointer (some ⟨b,off,none⟩))).run P w= .ok (.agg v) w:=by
 obtain⟨y,h1,h2,_⟩:=z5z (P:=P) (w:=w) (off:=off) hb hu rfl hv (by simpa using hs) (fun h=>by cases h)
 rw[show Value.agg v=y by rw[h2 rfl]]
 simpa[Instr.loadAt,Instr.sureAddr]using h1
theorem z7X {T : TypeId} {i : TypeInfo} {w : World} {c v : Array Value} {t : TypeId} (hi : P.info? T = some i) (hs : v.size = P.cellsOf T) (hc : c.size = v.size) (ho : ∀ x ∈ v.toList, x.oneCell' = true) :
    (Instr.storeAt T (.pointer (some ⟨w.heap.size,0,none⟩)) (.agg v)).run P (w.alloc (.cells c t))= .ok () (w.alloc (.cells v t)):=by
 have hst:=run_storeCells_at P w.heap.size 0 t v.toList 0 c (w.alloc (.cells c t)) (World.alloc_heap_new w _) (by simp;omega) ho
 simp only[Nat.add_zero,List.take_zero,List.nil_append,Nat.zero_add]at hst
 have e:(w.alloc (.cells c t)).setRow w.heap.size (v.toList++c.toList.drop v.toList.length).toArray=w.alloc (.cells v t):=by
  rw[List.drop_of_length_le (by simp;omega),List.append_nil]
  show World.mk _ _ _ _ _=World.mk _ _ _ _ _
  refine congrArg (fun h=>World.mk h w.tape w.drawn w.os w.output) ?_
  show(w.heap.push (Obj.cells c t)).modify w.heap.size _=w.heap.push (Obj.cells v t)
  refine Array.ext (by simp) fun k h1 h2=>?_
  rw[Array.getElem_modify,Array.getElem_push,Array.getElem_push]
  simp at h1
  split
  · rename_i e
    subst e
    simp
  · rw[dif_pos (by omega),dif_pos (by omega)]
 rw[e]at hst
 simp[Instr.storeAt,Instr.sureAddr,storeVar,X4 hi,Value.cells,hs,hst]
end Go.Fw
