/- A part of the proof that the law returns true for every input: an executor for the model's code, and what functions of the program compute. -/
import Derived.Test.YtcafjpldfnegiaaGreatDoorB10
import Derived.Test.YtcafjpldfnegiaaGreatDoorB11
import Derived.Test.YtcafjpldfnegiaaGreatDoorB15
import Derived.Test.YtcafjpldfnegiaaGreatDoorB28
import Derived.Test.YtcafjpldfnegiaaGreatDoorB39
import Derived.Test.YtcafjpldfnegiaaGreatDoorB40
import Derived.Test.YtcafjpldfnegiaaGreatDoorB41
import Derived.Test.YtcafjpldfnegiaaGreatDoorB42
import Derived.KernelRfl
import Derived.OrdersIn
import Derived.RangeFuncCalls
import Derived.Deep.Slices
open Go IntKind
namespace Go.Fw
set_option maxRecDepth 100000
theorem zrA(f:Nat)(v w:VN)(g:v.ok=false)(a:VN.raw 1000000 v=true):PCall P 205 [.agg [CV.lit (Value.func (Fn.func f) #[] #[])],v.c,w.c] z4C:=
 j3 (.r 5 ((zek v a).eqB g) (.c (lq 30 30) .nil)) (by kernel_rfl)
theorem zpa(f:Nat)(v w:VN)(g:v.ok=true)(g2:w.ok=false)(a:VN.raw 1000000 v=true)(d:VN.raw 1000000 w=true):PCall P 205 [.agg [CV.lit (Value.func (Fn.func f) #[] #[])],v.c,w.c] z4C:=
 j3 (.r 5 ((zek v a).eqB g) (.r 9 ((zek w d).eqB g2) (.c (lq 30 30) .nil))) (by kernel_rfl)
theorem zpv(x y z x' y' z':K)(a:x.sz≤1000000)(d:y.sz≤1000000)(e:z.sz≤1000000)(f:x'.sz≤1000000)(g:y'.sz≤1000000)(i:z'.sz≤1000000)(j:x.sz+x'.sz+2<1073741824)(k:y.sz+y'.sz+2<1073741824)(l:z.sz+z'.sz+2<1073741824):PCall P 205 [.agg [CV.lit (Value.func (Fn.func 137) #[] #[])],z7s x y z,z7s x' y' z'] (z7s (x+x') (y+y') (z+z')):=
 j3 (.r 5 (zbV x y z a d e) (.r 9 (zbV x' y' z' f g i) (.r 19 (z6C x x' j) (.r 26 (z6C y y' k) (.r 33 (z6C z z' l) (.c (lq 30 30) .nil)))))) (by kernel_rfl)
theorem zoj(x y z x' y' z':K)(a:x.sz≤1000000)(d:y.sz≤1000000)(e:z.sz≤1000000)(f:x'.sz≤1000000)(g:y'.sz≤1000000)(i:z'.sz≤1000000)(j:x.sz+x'.sz+2<1073741824)(k:y.sz+y'.sz+2<1073741824)(l:z.sz+z'.sz+2<1073741824):PCall P 205 [.agg [CV.lit (Value.func (Fn.func 136) #[] #[])],z7s x y z,z7s x' y' z'] (z7s (x*x') (y*y') (z*z')):=
 j3 (.r 5 (zbV x y z a d e) (.r 9 (zbV x' y' z' f g i) (.r 19 (z6d x x' j) (.r 26 (z6d y y' k) (.r 33 (z6d z z' l) (.c (lq 30 30) .nil)))))) (by kernel_rfl)
theorem znp(v w:VN)(g:v.ok=false)(a:VN.raw 1000000 v=true):PCall P 170 [v.c,w.c] z4C:=
 j3 (.r 4 ((zek v a).eqB g) (.c (lq 30 30) .nil)) (by kernel_rfl)
theorem zqU(v w:VN)(g:v.ok=true)(g2:w.ok=false)(a:VN.raw 1000000 v=true)(d:VN.raw 1000000 w=true):PCall P 170 [v.c,w.c] z4C:=
 j3 (.r 4 ((zek v a).eqB g) (.r 8 ((zek w d).eqB g2) (.c (lq 30 30) .nil))) (by kernel_rfl)
theorem zss(a b c d:K)(e:a.sz+d.sz+2<1073741824)(f:b.sz+c.sz+2<1073741824)(g:(a*d).sz+(b*c).sz+2<1073741824):PCall P 222 [Z0 a,Z0 b,Z0 c,Z0 d] (Z0 (a*d-b*c)):=
 j3 (.r 7 (z6d a d e) (.r 10 (z6d b c f) (.r 11 (zpu (a*d) (b*c) g) (.c (lq 10 10) .nil)))) (by kernel_rfl)
theorem zot(a b c:Int)(d:(-9223372036854775808:Int)≤a∧a≤9223372036854775807)(e:(-9223372036854775808:Int)≤b∧b≤9223372036854775807)(f:(-9223372036854775808:Int)≤c∧c≤9223372036854775807):PCall P 139 [j5 a,j5 b,j5 c] (z7s (K.ofInt a) (K.ofInt b) (K.ofInt c)):=
 j3 (.r 2 (z0y a d) (.r 4 (z0y b e) (.r 6 (z0y c f) (.c (lq 30 30) .nil)))) (by kernel_rfl)
abbrev opC(f:Nat):CV:= .agg [.lit (.func (.func f) #[] #[])]
def V3.pmul(a b:V3):V3:=⟨a.x*b.x,a.y*b.y,a.z*b.z⟩
noncomputable def z5c(v w:VN):VN:=ofV (o2 V3.pmul (toV v) (toV w))
noncomputable def oV(a b c:Int):VN:=ofV (toV (ofV (some ⟨K.ofInt a,K.ofInt b,K.ofInt c⟩)))
theorem ze9(a b c:Int):oV a b c=ofV (some ⟨K.ofInt a,K.ofInt b,K.ofInt c⟩):=by unfold oV;rw[zdm]
theorem zpX (f : Nat) (g : V3 → V3 → V3) (v w : VN) (hv : v.raw 1000000 = true) (hw : w.raw 1000000 = true)
    (h: ∀a b:V3,a.x.sz≤1000000→a.y.sz≤1000000→a.z.sz≤1000000→b.x.sz≤1000000→b.y.sz≤1000000→b.z.sz≤1000000→PCall P 205 [opC f,a.c,b.c] (g a b).c):
    PCall P 205 [opC f,v.c,w.c] (ofV (o2 g (toV v) (toV w))).c:=by
 cases ev:toV v with
 |none=>exact zrA f v w (z3a ev) hv
 |some a=>
  cases ew:toV w with
  |none=>exact zpa f v w (zas ev) (z3a ew) hv hw
  |some b=>
   obtain⟨x,y,z⟩:=z1p ev hv
   obtain⟨x',y',z'⟩:=z1p ew hw
   rw[zbJ ev,zbJ ew]
   exact h a b x y z x' y' z'
theorem zsP(v w:VN)(hv:v.raw 1000000=true)(hw:w.raw 1000000=true):PCall P 205 [opC 137,v.c,w.c] (z0G v w).c:=
 zpX 137 V3.add v w hv hw fun a b x y z x' y' z'=>zpv _ _ _ _ _ _ x y z x' y' z' (by omega) (by omega) (by omega)
theorem zrs(v w:VN)(hv:v.raw 1000000=true)(hw:w.raw 1000000=true):PCall P 205 [opC 136,v.c,w.c] (z5c v w).c:=
 zpX 136 V3.pmul v w hv hw fun a b x y z x' y' z'=>zoj _ _ _ _ _ _ x y z x' y' z' (by omega) (by omega) (by omega)
theorem znx(v:VN)(k:RN)(hv:v.raw 1000000=true)(hk:k.raw 1000000=true):PCall P 205 [opC 136,v.c,z5f k k k] (z5c v ⟨k,k,k⟩).c:=
 zrs v ⟨k,k,k⟩ hv (z0z.2 ⟨hk,hk,hk⟩)
theorem ztt (a b c : Int) (ha : -9223372036854775808 ≤ a ∧ a ≤ 9223372036854775807) (hb : -9223372036854775808 ≤ b ∧ b ≤ 9223372036854775807) (hc : -9223372036854775808 ≤ c ∧ c ≤ 9223372036854775807) :
    PCall P 139 [j5 a,j5 b,j5 c] (oV a b c).c:=by rw[ze9];exact zot a b c ha hb hc
theorem zsY(a b c d:K)(ha:a.sz≤100000)(hb:b.sz≤100000)(hc:c.sz≤100000)(hd:d.sz≤100000):PCall P 222 [Z0 a,Z0 b,Z0 c,Z0 d] (Z0 (a*d-b*c)):=by
 have m1:=K.sz_mul a d
 have m2:=K.sz_mul b c
 exact zss a b c d (by omega) (by omega) (by omega)
theorem zmY(v w:VN)(a:VN.raw 1000000 v=true)(d:VN.raw 1000000 w=true):PCall P 141 [v.c,w.c] (z5f (z0G v w).x (z0G v w).y (z0G v w).z):=
 j3 (.r 6 (zsP v w a d) (.c (lq 30 30) .nil)) (by kernel_rfl)
theorem zlt(v w:VN)(a:VN.raw 1000000 v=true)(d:VN.raw 1000000 w=true)(e:RN.raw 1000000 (z5c v w).x=true)(f:RN.raw 1000000 (z5c v w).y=true)(g:RN.raw 1000000 (z3l (z5c v w).x (z5c v w).y)=true)(i:RN.raw 1000000 (z5c v w).z=true):PCall P 149 [v.c,w.c] (RN.c (z3l (z3l (z5c v w).x (z5c v w).y) (z5c v w).z)):=
 j3 (.r 6 (zrs v w a d) (.c (lq 30 30) (.r 13 (zaN ((z5c v w).x) ((z5c v w).y) e f) (.r 16 (zaN (z3l (z5c v w).x (z5c v w).y) ((z5c v w).z) g i) (.c (lq 10 10) .nil))))) (by kernel_rfl)
theorem zsg(x y z x' y' z':K)(a:x.sz≤1000000)(d:y.sz≤1000000)(e:z.sz≤1000000)(f:x'.sz≤1000000)(g:y'.sz≤1000000)(i:z'.sz≤1000000)(j:y.sz≤100000)(k:z.sz≤100000)(l:y'.sz≤100000)(m:z'.sz≤100000)(n:z.sz≤100000)(o:x.sz≤100000)(p:z'.sz≤100000)(q:x'.sz≤100000)(s:x.sz≤100000)(t:y.sz≤100000)(u:x'.sz≤100000)(v:y'.sz≤100000):PCall P 170 [z7s x y z,z7s x' y' z'] (z7s (y*z'-z*y') (z*x'-x*z') (x*y'-y*x')):=
 j3 (.r 4 (zbV x y z a d e) (.r 8 (zbV x' y' z' f g i) (.r 20 (zsY y z y' z' j k l m) (.r 29 (zsY z x z' x' n o p q) (.r 38 (zsY x y x' y' s t u v) (.c (lq 30 30) .nil)))))) (by kernel_rfl)
theorem zk4(v:VN)(k:RN)(a:VN.raw 1000000 v=true)(d:RN.raw 1000000 k=true):PCall P 142 [v.c,k.c] (z5f (z5c v {x:=k,y:=k,z:=k}).x (z5c v {x:=k,y:=k,z:=k}).y (z5c v {x:=k,y:=k,z:=k}).z):=
 j3 (.r 9 (znx v k a d) (.c (lq 30 30) .nil)) (by kernel_rfl)
theorem zb3(v w:VN)(hv:v.raw 1000000=true)(hw:w.raw 1000000=true):PCall P 141 [v.c,w.c] (z0G v w).c:=zmY v w hv hw
theorem zc1(v:VN)(k:RN):z5c v ⟨k,k,k⟩=Q0 v k:=by
 unfold z5c Q0
 cases ev:toV v with
 |none=>rfl
 |some a=>
  have e:toV ⟨k,k,k⟩=(toO k).map fun c=>⟨c,c,c⟩:=by
   unfold toV
   cases ek:toO k<;>rfl
  rw[e]
  cases ek:toO k<;>rfl
theorem z5A(v:VN)(k:RN)(hv:v.raw 1000000=true)(hk:k.raw 1000000=true):PCall P 142 [v.c,k.c] (Q0 v k).c:=by
 rw[←zc1]
 exact zk4 v k hv hk
theorem zca(v w:VN):z3l (z3l (z5c v w).x (z5c v w).y) (z5c v w).z=z3y v w:=by
 unfold z3y z5c
 cases ev:toV v with
 |none=>show z3l (z3l .zero .zero) .zero= .zero;unfold z3l;rw[z5j];rfl
 |some a=>
  cases ew:toV w with
  |none=>show z3l (z3l .zero .zero) .zero= .zero;unfold z3l;rw[z5j];rfl
  |some b=>
   show z3l (z3l (.ofK (a.x*b.x)) (.ofK (a.y*b.y))) (.ofK (a.z*b.z))= .ofK (a.x*b.x+a.y*b.y+a.z*b.z)
   unfold z3l
   simp only[z7K,z7x]
   rfl
theorem zfN(v w:VN)(hv:v.raw 1000=true)(hw:w.raw 1000=true):PCall P 170 [v.c,w.c] (z3Z v w).c:=by
 have hv':=VN.raw_mono hv (show 1000≤1000000 by decide)
 have hw':=VN.raw_mono hw (show 1000≤1000000 by decide)
 unfold z3Z
 cases ev:toV v with
 |none=>exact znp v w (z3a ev) hv'
 |some a=>
  cases ew:toV w with
  |none=>exact zqU v w (zas ev) (z3a ew) hv' hw'
  |some b=>
   obtain⟨x,y,z⟩:=z1p ev hv
   obtain⟨x',y',z'⟩:=z1p ew hw
   rw[zbJ ev,zbJ ew]
   refine zsg _ _ _ _ _ _ ?_ ?_ ?_ ?_ ?_ ?_ ?_ ?_ ?_ ?_ ?_ ?_ ?_ ?_ ?_ ?_ ?_ ?_<;>omega
noncomputable def zV(v:VN):Bool:=rnB v.x (oV 0 0 0).x&&(rnB v.y (oV 0 0 0).y&&(rnB v.z (oV 0 0 0).z&&true))
def plR(x y z d:RN):CV:= .agg (x.l++(y.l++(z.l++d.l)))
structure PN where
 n:VN
 d:RN
def PN.c(p:PN):CV:=plR p.n.x p.n.y p.n.z p.d
def PN.zero:PN:=⟨.zero,.zero⟩
def PN.raw(k:Nat)(p:PN):Bool:=p.n.raw k&&p.d.raw k
theorem PN.raw_iff{k:Nat}{p:PN}:p.raw k=true↔p.n.raw k=true∧p.d.raw k=true:=by unfold PN.raw;simp
theorem zo4 (a b c : Int) (ha : -9223372036854775808 ≤ a ∧ a ≤ 9223372036854775807) (hb : -9223372036854775808 ≤ b ∧ b ≤ 9223372036854775807) (hc : -9223372036854775808 ≤ c ∧ c ≤ 9223372036854775807) :
    PCall P 63 [j5 a,j5 b,j5 c] (oV a b c).c:=by rw[ze9];exact zmD a b c ha hb hc
theorem sgn_zero{x:K}:K.sgn x=0↔x=0:=Sg.zero x
noncomputable def z1Z(x y:RN):RN×Int:=match toO x,toO y with
 |some a,some b=>if K.sgn b=0 then(.zero,10)else(.ofK (K.div a b),0)
 |_,_=>(.zero,1)
theorem zdS(x y:RN)(hx:x.raw 1000000=true)(hy:y.raw 1000000=true):PCall P 147 [x.c,y.c] (.tup [(z1Z x y).1.c,j5 (z1Z x y).2]):=by
 unfold z1Z
 cases ex:toO x with
 |none=>exact zlx x y (z0i ex) hx
 |some k=>
  cases ey:toO y with
  |none=>exact ziN x y (z18 ex).1 (z0i ey) hx hy
  |some l=>
   have a:=z11 ex hx
   have b:=z11 ey hy
   rw[zc7 (z18 ex).2,zc7 (z18 ey).2]
   dsimp only
   by_cases h0:K.sgn l=0
   · rw[if_pos h0,sgn_zero.1 h0]
     exact zpH k (by simp only[Smk];omega)
   · rw[if_neg h0]
     exact zi2 k l (fun h=>h0 (sgn_zero.2 h)) (by omega)
noncomputable def PN.ok(p:PN):Bool:=p.n.ok&&(!zV p.n&&p.d.ok)
noncomputable def oN(n:Int):RN:=ofO (toO (ofO (some (K.ofInt n))))
theorem z9I(n:Int):oN n= .ofK (K.ofInt n):=by unfold oN;rw[z7x];rfl
theorem zdk(n:Int)(h: -9223372036854775808≤n∧n≤9223372036854775807):PCall P 144 [j5 n] (oN n).c:=by rw[z9I];exact z0y n h
theorem zpG(x y:RN)(a:RN.raw 1000000 y=true)(d:RN.raw 1000000 x=true)(e:RN.raw 1000000 (zaz y)=true):PCall P 135 [x.c,y.c] (RN.c (z3l x (zaz y))):=
 j3 (.r 5 (zr9 y a) (.r 6 (zaN x (zaz y) d e) (.c (lq 10 10) .nil))) (by kernel_rfl)
noncomputable def kN(x:K):RN:=ofO (toO (ofO (some x)))
theorem z1C(x:K):kN x= .ofK x:=by unfold kN;rw[z7x];rfl
theorem zsV(i:Int):PCall P 33 [j5 i] (kN (z5o i)).c:=by rw[z1C];exact z8q i
theorem zsT(i:Int):PCall P 35 [j5 i] (kN (z9n i)).c:=by rw[z1C];exact zf9 i
theorem z20(x:K):toO (kN x)=some x:=by rw[z1C];exact z7K x
theorem zi3(x y:K):z2E (kN x) (kN y)=kN (x-y):=by unfold z2E;rw[z20,z20,z1C];rfl
theorem zhX(x:K):zdC (kN x)=K.sgn x:=by unfold zdC;rw[z20]
theorem zks(n:Int):oN n=kN (K.ofInt n):=by rw[z9I,z1C]
theorem zdE(x y:K)(h:K.sgn y≠0):(z1Z (kN x) (kN y)).1=kN (K.div x y):=by
 unfold z1Z
 rw[z20,z20]
 dsimp only
 rw[if_neg h,z1C]
theorem zaB(x y:RN)(hx:x.raw 1000000=true)(hy:y.raw 1000000=true):PCall P 135 [x.c,y.c] (z2E x y).c:=by
 have h:=zpG x y hy hx (zme hy)
 have e:z3l x (zaz y)=z2E x y:=by unfold z3l z2E;rw[zaM,zox]
 rw[e]at h
 exact h
theorem z3q{x:K}{n:Nat}(h:x.sz≤n):(kN x).raw n=true:=by rw[z1C];exact RN.ofK_raw x h
theorem z55{z:Int}{n:Nat}(h:(K.ofInt z).sz≤n):(oN z).raw n=true:=by rw[zks];exact z3q h
theorem ztP(a b c:Int):(oV a b c).x=oN a:=by rw[ze9,z9I];rfl
theorem ztQ(a b c:Int):(oV a b c).y=oN b:=by rw[ze9,z9I];rfl
theorem ztN(a b c:Int):(oV a b c).z=oN c:=by rw[ze9,z9I];rfl
theorem PN.raw_mono{p:PN}{n m:Nat}(h:p.raw n=true)(hm:n≤m):p.raw m=true:=by
 obtain⟨a,b⟩:=PN.raw_iff.1 h
 exact PN.raw_iff.2 ⟨VN.raw_mono a hm,RN.raw_mono b hm⟩
open Go.RowKit
def PN.a(p:PN):Array Value:=p.n.x.a++(p.n.y.a++(p.n.z.a++p.d.a))
theorem zkN:(oN 1).raw 1=true:=by rw[z9I];kernel_rfl
theorem za4(x y z:K):toV ⟨kN x,kN y,kN z⟩=some ⟨x,y,z⟩:=by
 unfold toV
 rw[z20,z20,z20]
theorem zhK(x y z k:K):Q0 ⟨kN x,kN y,kN z⟩ (kN k)=⟨kN (x*k),kN (y*k),kN (z*k)⟩:=by
 unfold Q0
 rw[za4,z20,z1C,z1C,z1C]
 rfl
theorem zgv(n:Int)(h: -9223372036854775808≤n∧n≤9223372036854775807):PCall P 40 [j5 n] (oN n).c:=by rw[z9I];exact z49 n h
theorem z5H(S:Nat→Prop)(n:Nat)(hs: ∀k,k<n→S (k+1)→S k)(he:S n):S 0:=by
 have h: ∀d k,k+d=n→S k:=by
  intro d
  induction d with
  |zero=>
   intro k hk
   obtain rfl:k=n:=by omega
   exact he
  |succ d ih=>
   intro k hk
   exact hs k (by omega) (ih (k+1) (by omega))
 exact h n 0 (by omega)
def flat{α:Type}(f:α→List CV)(l:List α):List CV:=l.flatMap f
section
variable{α:Type}{f:α→List CV}{s:Nat}
theorem z2e(x:α)(l:List α):flat f (x::l)=f x++flat f l:=by simp[flat]
theorem zh6(a b:List α):flat f (a++b)=flat f a++flat f b:=by simp[flat]
theorem z1r(hf: ∀x,(f x).length=s)(l:List α):(flat f l).length=l.length*s:=by
 induction l with
 |nil=>simp[flat]
 |cons x l ih=>rw[z2e,List.length_append,hf,ih,List.length_cons,Nat.add_mul,Nat.one_mul,Nat.add_comm]
theorem ze3(hf: ∀x,(f x).length=s)(l:List α)(k:Nat):(flat f l).drop (k*s)=flat f (l.drop k):=by
 induction l generalizing k with
 |nil=>simp[flat]
 |cons x l ih=>
  cases k with
  |zero=>rw[Nat.zero_mul];rfl
  |succ k=>
   have e:List.drop s (f x++flat f l)=flat f l:=by rw[←hf x,List.drop_left]
   rw[z2e,Nat.succ_mul,Nat.add_comm,←List.drop_drop,e,ih]
   rfl
theorem z0O(hf: ∀x,(f x).length=s){l:List α}{k:Nat}(hk:k<l.length):List.take s (List.drop (k*s) (flat f l))=f l[k]:=by
 rw[ze3 hf,List.drop_eq_getElem_cons hk,z2e,List.take_append_of_le_length (by rw[hf];exact Nat.le_refl _),List.take_of_length_le (by rw[hf];exact Nat.le_refl _)]
theorem zd3{l:List α}{k:Nat}(hk:k<l.length):flat f (l.take (k+1))=flat f (l.take k)++f l[k]:=by
 rw[List.take_add_one,List.getElem?_eq_getElem hk,zh6]
 simp[flat]
theorem z9b(hf: ∀x,(f x).length=s){l:List α}{k j:Nat}(hk:k<l.length)(hj:j<s):(flat f l)[k*s+j]?=(f l[k])[j]?:=by
 have h:=z0O hf hk
 have e:(List.take s (List.drop (k*s) (flat f l)))[j]?=(flat f l)[k*s+j]?:=by
  rw[List.getElem?_take_of_lt hj,List.getElem?_drop]
 rw[←e,h]
end
def rdL(x:Int×Int):List CV:=[j5 x.1,j5 x.2]
theorem z1a(x:Int×Int):(rdL x).length=2:=rfl
def rdV(l:List (Int×Int)):CV:= .lst l.length (flat rdL l)
theorem z9J(x:RN):x.l.length=10:=rfl
def nmV(l:List RN):CV:= .lst l.length (flat RN.l l)
theorem ze0{P:Program}{f:FuncId}{args:List CV}(h:PCall P f args (.lit (.slice none 0 0))):PCall P f args (.lst 0 []):=by
 intro Im w vs him hrep
 refine(h Im w vs him hrep).mono ?_
 rintro e w' ⟨y,v,Im',rfl,rfl,hv,h1,h2,h3,h4⟩
 refine⟨y,_,Im',rfl,rfl,?_,h1,h2,h3,h4⟩
 unfold CV.rep at hv ⊢
 exact⟨none,0,hv,Nat.le_refl _,.inl ⟨rfl,rfl⟩⟩
theorem z7X {α : Type} {s : Nat} (l : List α) (g : α → List CV) (hg : ∀ x, (g x).length = s) (S : Nat → Option (Nat × List CV) → Prop)
    (h0: ∀k (hk:k<l.length),S (k+1) (some (1,g l[k]))→S k none)
    (h1: ∀k (hk:k<l.length) c out,c≤k→out.length=c*s→S (k+1) (some (c+1,out++g l[k]))→S k (some (c,out)))
    (hl:l≠[]) (he:S l.length (some (l.length,flat g l))):S 0 none:=by
 have hp:=List.length_pos_iff.2 hl
 have key:=z5H (fun k=>if k=0 then S 0 none else S k (some (k,flat g (l.take k)))) l.length ?_ ?_
 · simpa using key
 · intro k hk h
   rw[if_neg (by omega),zd3 hk]at h
   by_cases hk0:k=0
   · subst hk0
     rw[if_pos rfl]
     exact h0 0 hp h
   · rw[if_neg hk0]
     exact h1 k hk k _ (Nat.le_refl _) (by rw[z1r hg,List.length_take,Nat.min_eq_left (by omega)]) h
 · rw[if_neg (by omega),List.take_length]
   exact he
open Go.Proofs Go.Proofs.YtcafjpldfnegiaaGreatDoor
open Go.ChangeShapes Go.WideShapes Go.ChangeAt Go.RowKit
theorem zbx{α:Type}[Inhabited α] {n:Nat}{q:Nat→α→Prop}(h: ∀i,i<n→ ∃x,q i x): ∃f:Nat→α,∀i,i<n→q i (f i):=
 ⟨fun i=>if hi:i<n then(h i hi).choose else default,fun i hi=>by simp only[dif_pos hi];exact(h i hi).choose_spec⟩
theorem z6F {w : World} {base : Nat} {a : Addr} {n : Nat} {cs : List Value} (h : w.cells? base a n = some cs) (hn : 0 < n) :
    a.spot=none∧ ∃c T fz,w.heap[a.block]?=some (.cells c T fz)∧(c.toList.drop a.off).take n=cs:=by
 obtain⟨_,hlen,hi⟩:=World.cells?_some h
 have h0:=hi 0 hn
 have e0:a.add 0=a:=rfl
 rw[e0]at h0
 unfold World.cell? at h0
 split at h0
 · rename_i c T fz hc
   split at h0
   · rw[List.getElem?_eq_getElem (by omega)]at h0;cases h0
   · rename_i hs
     have hspot:a.spot=none:=by cases e:a.spot with|none=>rfl|some s=>rw[e]at hs;exact absurd rfl hs
     refine⟨hspot,c,T,fz,hc,?_⟩
     refine List.ext_getElem? fun i=>?_
     by_cases hin:i<n
     · rw[List.getElem?_take_of_lt hin,List.getElem?_drop,←hi i hin]
       unfold World.cell? Addr.add
       by_cases hi0:i=0
       · subst hi0
         rw[if_pos rfl,hc]
         simp[hspot]
       · rw[if_neg hi0,hc]
         simp
     · rw[List.getElem?_eq_none (by rw[List.length_take];omega),List.getElem?_eq_none (by omega)]
 · rw[List.getElem?_eq_getElem (by omega)]at h0;cases h0
def zmU(b:Nat)(cs:List Value):Imm:=fun k=>if k=b then some cs else none
theorem zaD(Im:Imm): ∀l:List Value,CV.repL Im (l.map .lit) l
 | []=>by simp only[List.map_nil,CV.repL]
 |x::l=>by
  simp only[List.map_cons,CV.repL]
  exact⟨x,l,rfl,by simp only[CV.rep],zaD Im l⟩
def zsI(x:Int×Int):List Value:=[.int .i64 x.1,.int .i64 x.2]
theorem zer(l:List (Int×Int)):flat rdL l=(l.flatMap zsI).map .lit:=by
 induction l with
 |nil=>rfl
 |cons x l ih=>rw[z2e,ih,List.flatMap_cons,List.map_append];rfl
theorem z9K(a:Addr)(n:Nat):(a.add n).block=a.block∧(a.add n).off=a.off+n:=by
 unfold Addr.add
 split
 · rename_i h;subst h;exact⟨rfl,rfl⟩
 · exact⟨rfl,rfl⟩
section
variable{H:Type}{enc:TypeId×Value→H}{W:World}{base:Nat}{sp:Nat→Bool}{hd:Bool}
theorem zfM {t e : TypeId} {v : Value} {d : DataW H} {ps : List MemPlace} (hu : Tryz.prog.underlying t = some (.slice e)) (he : z4W Tryz.prog 8 e = some [.i .i64, .i .i64]) (hc : Tryz.prog.cellsOf e = 2) (hv : ∃ a len cap, v = .slice a len cap) (h : DataW.Trod enc Tryz.prog W base sp hd t v d ps) :
    ∃l:List (Int×Int),∃Im:Imm,ImOk Im W∧(rdV l).rep Im v:=by
 obtain⟨fuel,hx⟩:=h
 obtain⟨a0,len0,cap0,rfl⟩:=hv
 rcases Deep.open_slice hu hx with⟨h1,_⟩|⟨a,len,cap,m,n,D,Pl,h1,hb,hl,hm,hmm,_,hel⟩
 · simp only[Value.cells,List.cons.injEq,and_true]at h1
   injection h1 with e1 e2 e3
   subst e1 e2 e3
   refine⟨[],fun _=>none,(fun b cs hb=>by cases hb),?_⟩
   unfold rdV CV.rep
   exact⟨none,0,rfl,Nat.le_refl _,.inl ⟨rfl,rfl⟩⟩
 · simp only[Value.cells,List.cons.injEq,and_true]at h1
   injection h1 with e1 e2 e3
   subst e1
   obtain rfl:=e2.symm
   obtain rfl:=e3.symm
   have hlm:len≤m:=by rw[hmm];split<;>omega
   rw[hc]at hel
   obtain⟨f,hf⟩:=zbx (α:=Int×Int) (n:=len) (q:=fun i x=>W.cells? base (a.add (i*2)) 2=some (zsI x)) (fun i hi=>by
    obtain⟨cs,k1,k2⟩:=hel i (by omega)
    have k3:=z45 8 n e cs _ _ k2 he
    simp only[CTs,CT.ok]at k3
    obtain⟨_,_,rfl,⟨x,rfl,_⟩,_,_,rfl,⟨y,rfl,_⟩,rfl⟩:=k3
    exact⟨(x,y),k1⟩)
   by_cases h0:len=0
   · subst h0
     refine⟨[],fun _=>none,(fun b cs hb=>by cases hb),?_⟩
     unfold rdV CV.rep
     exact⟨some a,cap,rfl,hl,.inl ⟨rfl,rfl⟩⟩
   · obtain⟨hs,c,T,fz,hcell,_⟩:=z6F (hf 0 (by omega)) (by decide)
     rw[(z9K a (0*2)).1]at hcell
     have hs':a.spot=none:=hs
     have step: ∀k,k<len→(c.toList.drop (a.off+k*2)).take 2=zsI (f k):=fun k hk=>by
      obtain⟨_,c',T',fz',h2,h3⟩:=z6F (hf k hk) (by decide)
      rw[(z9K a (k*2)).1,hcell]at h2
      injection h2 with h2
      injection h2 with h2
      subst h2
      rw[(z9K a (k*2)).2]at h3
      exact h3
     have all: ∀k,k≤len→(c.toList.drop a.off).take (k*2)=((List.range k).map f).flatMap zsI:=by
      intro k
      induction k with
      |zero=>intro _;simp
      |succ k ih=>
       intro hk
       rw[List.range_succ,List.map_append,List.flatMap_append,←ih (by omega),Nat.succ_mul,List.take_add,List.drop_drop,step k (by omega)]
       simp
     refine⟨(List.range len).map f,zmU a.block c.toList,?_,?_⟩
     · intro b cs hbb
       unfold zmU at hbb
       split at hbb
       · rename_i hbe
         subst hbe
         injection hbb with hbb
         exact⟨c,T,fz,hcell,hbb⟩
       · cases hbb
     · unfold rdV CV.rep
       have hlen:(flat rdL ((List.range len).map f)).length=len*2:=by rw[z1r z1a,List.length_map,List.length_range]
       refine⟨some a,cap,by rw[List.length_map,List.length_range],by rw[List.length_map,List.length_range];exact hl,.inr ⟨a.block,a.off,c.toList,?_,?_,?_⟩⟩
       · rw[←hs']
       · unfold zmU;rw[if_pos rfl]
       · rw[hlen,all len (Nat.le_refl _),zer]
         exact zaD _ _
end
theorem zcU {f : FuncId} {cs : List CV} {W : World} {args : Array Value} (Im : Imm) (him : ImOk Im W) (h : PCall P f cs (.lit (.bool true))) (ha : CV.repL Im cs args.toList) :
    Calls Tryz.prog f args W fun e W'=>e= .returned (.bool true)∧Below W.heap.size W W':=by
 refine(h Im W args him ha).mono ?_
 rintro e W' ⟨y,v,I',rfl,rfl,hv,_,_,hb,_⟩
 simp only[CV.rep]at hv
 subst hv
 exact⟨rfl,hb⟩
end Go.Fw
open Go Go.Proofs Go.Proofs.YtcafjpldfnegiaaGreatDoor
namespace Go.Fw
set_option maxRecDepth 100000
def RN.v(x:RN):List Value:=[.bool x.b0,.string x.s0,.bool x.b1,.string x.s1,.bool x.b2,.string x.s2,.bool x.b3,.string x.s3,.bool x.b4,.string x.s4]
abbrev zt7:List CT:=[.b,.s,.b,.s,.b,.s,.b,.s,.b,.s,.b,.s,.b,.s,.b,.s,.b,.s,.b,.s,.b,.s,.b,.s,.b,.s,.b,.s,.b,.s]
theorem z7d{ts:List CT}{l:List Value}(h:CTs (.b:: .s:: .b:: .s:: .b:: .s:: .b:: .s:: .b:: .s::ts) l): ∃(x:RN) (m:List Value),l=x.v++m∧CTs ts m:=by
 simp only[CTs,CT.ok]at h
 obtain⟨_,_,rfl,⟨b0,rfl⟩,_,_,rfl,⟨s0,rfl⟩,_,_,rfl,⟨b1,rfl⟩,_,_,rfl,⟨s1,rfl⟩,_,_,rfl,⟨b2,rfl⟩,_,_,rfl,⟨s2,rfl⟩,_,_,rfl,⟨b3,rfl⟩,_,_,rfl,⟨s3,rfl⟩,_,_,rfl,⟨b4,rfl⟩,_,m,rfl,⟨s4,rfl⟩,hm⟩:=h
 exact⟨⟨b0,s0,b1,s1,b2,s2,b3,s3,b4,s4⟩,m,rfl,hm⟩
theorem zgI{ts:List CT}{l:List Value}(h:CTs (zt7++ts) l): ∃(x y z:RN) (m:List Value),l=x.v++(y.v++(z.v++m))∧CTs ts m:=by
 obtain⟨x,m1,rfl,h1⟩:=z7d h
 obtain⟨y,m2,rfl,h2⟩:=z7d h1
 obtain⟨z,m3,rfl,h3⟩:=z7d h2
 exact⟨x,y,z,m3,rfl,h3⟩
theorem zdW{l:List Value}(h:CTs zt7 l): ∃x y z:RN,l=x.v++(y.v++z.v):=by
 obtain⟨x,y,z,m,rfl,h4⟩:=zgI (ts:=[]) h
 obtain rfl:m=[]:=h4
 exact⟨x,y,z,by simp⟩
theorem ztU:z4W Tryz.prog 8 51=some zt7:=by kernel_rfl
theorem zkW(I:Imm)(x y z:RN):CV.rep I (z5f x y z) (.agg (x.v++(y.v++z.v)).toArray):=zlY I (x.v++(y.v++z.v))
theorem zig(n:Nat)(es:List CV){R:CV→Prop}(hR:Ok P 61 (loopHead P 61 0) ⟨J1 18 [(3,.cv (CV.lit (Value.slice none 0 0))),(6,.cv (.lst n es)),(7,.cv (.lit (.int .i64 (n:Int)))),(8,.cv (.lit (.int .i64 0)))],[]⟩ (.of R)):Y3 P 61 [.lst n es] R:=
 Z6 (keep:=[3,6,7,8]) (σ:=[]) (.o 5 .stop .nil) (by kernel_rfl) rfl hR .nil
theorem zjv(n:Nat)(es:List CV)(k mi mo:Int)(h1:decide (k<(n:Int))=true)(o1:(0:Int)≤k∧k<(n:Int))(o2:List.take 2 (List.drop (k.toNat*2) es)=[.lit (.int .i64 mi),.lit (.int .i64 mo)]){R:Goal}(hn:j7 R.n [2]=true)(hR:Ok P 61 (loopHead P 61 0) ⟨J1 18 [(3,.sl 0 0 1 2),(6,.cv (.lst n es)),(7,.cv (.lit (.int .i64 (n:Int)))),(8,.cv (.lit (.int .i64 (i64.wrap (k+1)))))],[some [.cv (.lit (.int .i64 mi)),.cv (.lit (.int .i64 mo))]]⟩ R):Ok P 61 (loopHead P 61 0) ⟨J1 18 [(3,.cv (CV.lit (Value.slice none 0 0))),(6,.cv (.lst n es)),(7,.cv (j5 (n:Int))),(8,.cv (j5 k))],[]⟩ R:=
 z07 (keep:=[3,6,7,8]) (σ:=[2]) (.b 2 h1 (.c o1 (.c o2 (.c (eqn 2) (.c (lq 2 2) (.c (lq 16 1099511627776) (.c (lq 1 1099511627776) (.c (show 0<1 from by decide) (.c (eqn 2) (.o 4 (.r (.agg [.lit (.int .i64 mi),.lit (.int .i64 mo)])) (.o 14 .stop .nil))))))))))) (by kernel_rfl) rfl hn hR (.cons (by simp[CvL]) .nil)
theorem zmA(n:Nat)(es:List CV)(k _mi _mo:Int)(h1:decide (k<(n:Int))=false){R:Goal}(hR:R.c (CV.lit (Value.slice none 0 0))):Ok P 61 (loopHead P 61 0) ⟨J1 18 [(3,.cv (CV.lit (Value.slice none 0 0))),(6,.cv (.lst n es)),(7,.cv (j5 (n:Int))),(8,.cv (j5 k))],[]⟩ R:=
 okT (.b 2 h1 .nil) (by kernel_rfl) hR
theorem zkl(n c:Nat)(es out:List CV)(k mi mo:Int)(h1:decide (k<(n:Int))=true)(o1:(0:Int)≤k∧k<(n:Int))(o2:List.take 2 (List.drop (k.toNat*2) es)=[.lit (.int .i64 mi),.lit (.int .i64 mo)])(o5:(c+1)*16≤1099511627776)(o6:c+1≤1099511627776)(o7:(own out).length=c*2)(o8:zb7 [.cv (.lit (.int .i64 mi)),.cv (.lit (.int .i64 mo))])(o10:CvL (own out++[.cv (.lit (.int .i64 mi)),.cv (.lit (.int .i64 mo))])){R:Goal}(hn:j7 R.n [3]=true)(hR:Ok P 61 (loopHead P 61 0) ⟨J1 18 [(3,.sl 0 0 (c+1) 2),(6,.cv (.lst n es)),(7,.cv (.lit (.int .i64 (n:Int)))),(8,.cv (.lit (.int .i64 (i64.wrap (k+1)))))],[some (own out++[.cv (.lit (.int .i64 mi)),.cv (.lit (.int .i64 mo))])]⟩ R):Ok P 61 (loopHead P 61 0) ⟨J1 18 [(3,.sl 0 0 c 2),(6,.cv (.lst n es)),(7,.cv (j5 (n:Int))),(8,.cv (j5 k))],[some (own out)]⟩ R:=
 z07 (keep:=[3,6,7,8]) (σ:=[3]) (.b 2 h1 (.c o1 (.c o2 (.c (eqn 2) (.c (lq 2 2) (.c o5 (.c o6 (.c o7 (.c o8 (.c (eqn 2) (.o 4 (.r (.agg [.lit (.int .i64 mi),.lit (.int .i64 mo)])) (.o 14 .stop .nil)))))))))))) (by kernel_rfl) rfl hn hR (.cons o10 .nil)
theorem zma(n c:Nat)(es out:List CV)(k _mi _mo:Int)(h1:decide (k<(n:Int))=false)(o1:List.take (c*2) (List.drop 0 (own out))=List.map MV.cv out){R:Goal}(hR:R.c (.lst c out)):Ok P 61 (loopHead P 61 0) ⟨J1 18 [(3,.sl 0 0 c 2),(6,.cv (.lst n es)),(7,.cv (j5 (n:Int))),(8,.cv (j5 k))],[some (own out)]⟩ R:=
 okT (.b 2 h1 (.c o1 (.o 5 (.r (CV.lit undef) [out]) .nil))) (by kernel_rfl) hR
theorem zpp(n:Nat)(es:List CV){R:CV→Prop}(hR:Ok P 118 (loopHead P 118 0) ⟨J1 27 [(0,.cv (.lst n es)),(3,.cv (.lit (.int .i64 0)))],[]⟩ (.of R)):Y3 P 118 [.lst n es] R:=
 Z6 (keep:=[0,3]) (σ:=[]) (.o 2 .stop .nil) (by kernel_rfl) rfl hR .nil
theorem zn0(n:Nat)(es:List CV)(i _mi mo:Int)(h1:decide (i<(n:Int))=true)(h2:decide (mo<(-10000:Int))=true)(o1:(0:Int)≤i∧i<(n:Int))(o2:es[i.toNat*2+1]?=some (.lit (.int .i64 mo))){R:Goal}(hR:R.c (.lit (.bool false))):Ok P 118 (loopHead P 118 0) ⟨J1 27 [(0,.cv (.lst n es)),(3,.cv (j5 i))],[]⟩ R:=
 okT (.b 5 h1 (.c o1 (.l 10 o2 (.c (eqn 1) (.b 12 h2 .nil))))) (by kernel_rfl) hR
theorem zmL(n:Nat)(es:List CV)(i _mi mo:Int)(h1:decide (i<(n:Int))=true)(h2:decide (mo<(-10000:Int))=false)(h3:decide (mo>10000)=true)(o1:(0:Int)≤i∧i<(n:Int))(o2:es[i.toNat*2+1]?=some (.lit (.int .i64 mo)))(o5:(0:Int)≤i∧i<(n:Int))(o6:es[i.toNat*2+1]?=some (.lit (.int .i64 mo))){R:Goal}(hR:R.c (.lit (.bool false))):Ok P 118 (loopHead P 118 0) ⟨J1 27 [(0,.cv (.lst n es)),(3,.cv (j5 i))],[]⟩ R:=
 okT (.b 5 h1 (.c o1 (.l 10 o2 (.c (eqn 1) (.b 12 h2 (.c o5 (.l 17 o6 (.c (eqn 1) (.b 20 h3 .nil))))))))) (by kernel_rfl) hR
theorem zjl(n:Nat)(es:List CV)(i _mi mo:Int)(h1:decide (i<(n:Int))=true)(h2:decide (mo<(-10000:Int))=false)(h3:decide (mo>10000)=false)(o1:(0:Int)≤i∧i<(n:Int))(o2:es[i.toNat*2+1]?=some (.lit (.int .i64 mo)))(o5:(0:Int)≤i∧i<(n:Int))(o6:es[i.toNat*2+1]?=some (.lit (.int .i64 mo))){R:Goal}(hn:j7 R.n []=true)(hR:Ok P 118 (loopHead P 118 0) ⟨J1 27 [(0,.cv (.lst n es)),(3,.cv (.lit (.int .i64 (i64.wrap (i+1)))))],[]⟩ R):Ok P 118 (loopHead P 118 0) ⟨J1 27 [(0,.cv (.lst n es)),(3,.cv (j5 i))],[]⟩ R:=
 z07 (keep:=[0,3]) (σ:=[]) (.b 5 h1 (.c o1 (.l 10 o2 (.c (eqn 1) (.b 12 h2 (.c o5 (.l 17 o6 (.c (eqn 1) (.b 20 h3 (.o 24 .stop .nil)))))))))) (by kernel_rfl) rfl hn hR .nil
theorem zjN(n:Nat)(es:List CV)(i _mi _mo:Int)(h1:decide (i<(n:Int))=false){R:Goal}(hR:R.c (.lit (.bool (decide ((n:Int)≤48))))):Ok P 118 (loopHead P 118 0) ⟨J1 27 [(0,.cv (.lst n es)),(3,.cv (j5 i))],[]⟩ R:=
 okT (.b 5 h1 .nil) (by kernel_rfl) hR
theorem zra(i o:Int)(h1:decide (o<(-10000:Int))=true):PCall P 182 [.agg [j5 i,j5 o]] (.lit (.bool true)):=
 j3 (.b 5 h1 .nil) (by kernel_rfl)
theorem zoN(i o:Int)(h1:decide (o<(-10000:Int))=false):PCall P 182 [.agg [j5 i,j5 o]] (.lit (.bool (decide (o>10000)))):=
 j3 (.b 5 h1 .nil) (by kernel_rfl)
theorem znB(n:Nat)(es:List CV){R:CV→Prop}(hR:Ok P 230 (loopHead P 230 0) ⟨J1 19 [(0,.cv (.lst n es)),(1,.cv (CV.lit (Value.func (Fn.func 182) {toList:=[]} {toList:=[]}))),(7,.cv (.lit (.int .i64 (n:Int)))),(8,.cv (.lit (.int .i64 0)))],[]⟩ (.of R)):Y3 P 230 [.lst n es,CV.lit (Value.func (Fn.func 182) #[] #[])] R:=
 Z6 (keep:=[0,1,7,8]) (σ:=[]) (.o 4 .stop .nil) (by kernel_rfl) rfl hR .nil
theorem zbw(l:List (Int×Int))(hl:l.length<2^30):PCall P 61 [rdV l] (rdV l):=by
 cases l with
 | nil => exact ze0 (zig 0 [] (R := (· = _)) (zmA 0 [] 0 0 0 rfl rfl))
 |cons x t=>
  generalize hx:x::t=l at*
  have hne:l≠[]:=by rw[←hx];exact List.cons_ne_nil _ _
  refine zig l.length (flat rdL l) (R := (· = _)) ?_
  refine z7X (s:=2) l rdL z1a (fun k o=>Ok P 61 (loopHead P 61 0) (match o with
   |none=>⟨J1 18 [(3,.cv (.lit (.slice none 0 0))),(6,.cv (.lst l.length (flat rdL l))),(7,.cv (j5 l.length)),(8,.cv (j5 k))],[]⟩
   | some (c, out) => ⟨J1 18 [(3, .sl 0 0 c 2), (6, .cv (.lst l.length (flat rdL l))), (7, .cv (j5 l.length)), (8, .cv (j5 k))], [some (own out)]⟩) (.of (· = rdV l))) ?_ ?_ hne ?_
  · intro k hk h
    refine zjv l.length (flat rdL l) k l[k].1 l[k].2 (decide_eq_true (by omega)) (by omega) (z0O z1a hk) rfl ?_
    rw[w64 (by omega)]
    exact h
  · intro k hk c out hc ho h
    refine zkl l.length c (flat rdL l) out k l[k].1 l[k].2 (decide_eq_true (by omega)) (by omega) (z0O z1a hk) (by omega) (by omega) (by simp[own,ho]) ?_ ?_ rfl ?_
    · simp[zb7,MV.one]
    · rw[show own out++[MV.cv (j5 l[k].1),MV.cv (j5 l[k].2)]=own (out++rdL l[k]) by simp[own,rdL]];exact CvL.map_cv _
    · rw[w64 (by omega)]
      simpa[own,rdL]using h
  · refine zma l.length l.length (flat rdL l) (flat rdL l) l.length 0 0 (decide_eq_false (by omega)) ?_ rfl
    rw[List.drop_zero,List.take_of_length_le (by simp[own,z1r z1a])];rfl
def z3t(l:List (Int×Int)):Bool:=decide (l.length≤48)&&l.all fun x=>decide (-10000≤x.2∧x.2≤10000)
theorem z3s{l:List (Int×Int)}{k:Nat}(hk:k<l.length):(flat rdL l)[(k:Int).toNat*2+1]?=some (j5 l[k].2):=by
 rw[Int.toNat_natCast,z9b z1a hk (by decide)];rfl
theorem zfz{l:List (Int×Int)}{p:Int×Int→Bool}{k:Nat}(hk:k<l.length):(l.drop k).all p=(p l[k]&&(l.drop (k+1)).all p):=by
 rw[List.drop_eq_getElem_cons hk,List.all_cons]
def rdP(x:Int×Int):Bool:=decide (-10000≤x.2∧x.2≤10000)
theorem z3S(l:List (Int×Int))(hl:l.length<2^30):PCall P 118 [rdV l] (.lit (.bool (z3t l))):=by
 refine zpp l.length (flat rdL l) (R := (· = _)) ?_
 have key:=z5H (fun k=> ∀R:Goal,j7 R.n []=true→R.c (.lit (.bool (decide (l.length≤48)&&(l.drop k).all rdP)))→Ok P 118 (loopHead P 118 0) ⟨J1 27 [(0,.cv (.lst l.length (flat rdL l))),(3,.cv (j5 k))],[]⟩ R) l.length ?_ ?_
 · exact key _ rfl (by show CV.lit _=CV.lit _;rfl)
 · intro k hk ih R hn hR
   rw[zfz hk]at hR
   have b:(0:Int)≤(k:Int)∧(k:Int)<(l.length:Int):=by omega
   have i1:=decide_eq_true b.2
   by_cases h1:l[k].2< -10000
   · refine zn0 l.length (flat rdL l) k l[k].1 l[k].2 i1 (decide_eq_true h1) b (z3s hk) ?_
     rw[show rdP l[k]=false from decide_eq_false (by omega),Bool.false_and,Bool.and_false]at hR
     exact hR
   · by_cases h2:l[k].2>10000
     · refine zmL l.length (flat rdL l) k l[k].1 l[k].2 i1 (decide_eq_false h1) (decide_eq_true h2) b (z3s hk) b (z3s hk) ?_
       rw[show rdP l[k]=false from decide_eq_false (by omega),Bool.false_and,Bool.and_false]at hR
       exact hR
     · refine zjl l.length (flat rdL l) k l[k].1 l[k].2 i1 (decide_eq_false h1) (decide_eq_false h2) b (z3s hk) b (z3s hk) hn ?_
       rw[show rdP l[k]=true from decide_eq_true (by omega),Bool.true_and]at hR
       rw[w64 (by omega)]
       exact ih R hn hR
 · intro R hn hR
   refine zjN l.length (flat rdL l) l.length 0 0 (decide_eq_false (by omega)) ?_
   rw[List.drop_length,List.all_nil,Bool.and_true]at hR
   have e:decide ((l.length:Int)≤48)=decide (l.length≤48):=by rw[decide_eq_decide];omega
   rw[e];exact hR
theorem zp3(i o:Int):PCall P 182 [.agg [j5 i,j5 o]] (.lit (.bool (!rdP (i,o)))):=by
 by_cases h1:o< -10000
 · rw[show rdP (i,o)=false from decide_eq_false (by simp only;omega)]
   exact zra i o (decide_eq_true h1)
 · refine(zoN i o (decide_eq_false h1)).eq ?_
   congr 2
   by_cases h2:o>10000
   · rw[decide_eq_true h2,show rdP (i,o)=false from decide_eq_false (by simp only;omega)];rfl
   · rw[decide_eq_false h2,show rdP (i,o)=true from decide_eq_true (by simp only;omega)];rfl
def ixF:List (Int×Int)→Nat→Int
 | [],_=> -1
 |x::l,k=>if rdP x then ixF l (k+1)else k
theorem zde: ∀(l:List (Int×Int)) (k:Nat),decide (ixF l k≥0)=!l.all rdP
 | [],_=>rfl
 |x::l,k=>by
  unfold ixF
  rw[List.all_cons]
  cases h:rdP x
  · rw[if_neg (by decide)]
    exact decide_eq_true (by omega)
  · rw[if_pos rfl,Bool.true_and];exact zde l (k+1)
end Go.Fw
