/- A part of the proof that the law returns true for every input: an executor for the model's code, and what functions of the program compute. -/
import Derived.Test.YtcafjpldfnegiaaGreatDoorB10
import Derived.Test.YtcafjpldfnegiaaGreatDoorB11
import Derived.Test.YtcafjpldfnegiaaGreatDoorB15
import Derived.Test.YtcafjpldfnegiaaGreatDoorB17
import Derived.Test.YtcafjpldfnegiaaGreatDoorB21
import Derived.Test.YtcafjpldfnegiaaGreatDoorB28
import Derived.Test.YtcafjpldfnegiaaGreatDoorB35
import Derived.Test.YtcafjpldfnegiaaGreatDoorB36
import Derived.Test.YtcafjpldfnegiaaGreatDoorB39
import Derived.Test.YtcafjpldfnegiaaGreatDoorB40
import Derived.Test.YtcafjpldfnegiaaGreatDoorB41
import Derived.Test.YtcafjpldfnegiaaGreatDoorB42
import Derived.KernelRfl
import Derived.OrdersIn
import Derived.RangeFuncCalls
open Go
namespace Go.Fw
set_option maxRecDepth 100000
abbrev opC(f:Nat):CV:= .agg [.lit (.func (.func f) #[] #[])]
def V3.pmul(a b:V3):V3:=⟨a.x*b.x,a.y*b.y,a.z*b.z⟩
noncomputable def z4E(v w:VN):VN:=ofV (o2 V3.pmul (toV v) (toV w))
noncomputable def oV(a b c:Int):VN:=ofV (toV (ofV (some ⟨K.ofInt a,K.ofInt b,K.ofInt c⟩)))
theorem zcK(a b c:Int):oV a b c=ofV (some ⟨K.ofInt a,K.ofInt b,K.ofInt c⟩):=by unfold oV;rw[zcA]
theorem znj (f : Nat) (g : V3 → V3 → V3) (v w : VN) (hv : v.raw 1000000 = true) (hw : w.raw 1000000 = true)
    (h: ∀a b:V3,a.x.sz≤1000000→a.y.sz≤1000000→a.z.sz≤1000000→b.x.sz≤1000000→b.y.sz≤1000000→b.z.sz≤1000000→PCall P 205 [opC f,a.c,b.c] (g a b).c):
    PCall P 205 [opC f,v.c,w.c] (ofV (o2 g (toV v) (toV w))).c:=by
 cases ev:toV v with
 |none=>exact znI f v w (z3x ev) hv
 |some a=>
  cases ew:toV w with
  |none=>exact zmz f v w (zdu ev) (z3x ew) hv hw
  |some b=>
   obtain⟨x,y,z⟩:=z2X ev hv
   obtain⟨x',y',z'⟩:=z2X ew hw
   rw[zdN ev,zdN ew]
   exact h a b x y z x' y' z'
theorem zp8(v w:VN)(hv:v.raw 1000000=true)(hw:w.raw 1000000=true):PCall P 205 [opC 137,v.c,w.c] (z0t v w).c:=
 znj 137 V3.add v w hv hw fun a b x y z x' y' z'=>zo5 _ _ _ _ _ _ x y z x' y' z' (by omega) (by omega) (by omega)
theorem znz(v w:VN)(hv:v.raw 1000000=true)(hw:w.raw 1000000=true):PCall P 205 [opC 136,v.c,w.c] (z4E v w).c:=
 znj 136 V3.pmul v w hv hw fun a b x y z x' y' z'=>zl0 _ _ _ _ _ _ x y z x' y' z' (by omega) (by omega) (by omega)
theorem znd(v:VN)(k:RN)(hv:v.raw 1000000=true)(hk:k.raw 1000000=true):PCall P 205 [opC 136,v.c,z3J k k k] (z4E v ⟨k,k,k⟩).c:=
 znz v ⟨k,k,k⟩ hv (z0a.2 ⟨hk,hk,hk⟩)
theorem zpj (a b c : Int) (ha : -9223372036854775808 ≤ a ∧ a ≤ 9223372036854775807) (hb : -9223372036854775808 ≤ b ∧ b ≤ 9223372036854775807) (hc : -9223372036854775808 ≤ c ∧ c ≤ 9223372036854775807) :
    PCall P 139 [j5 a,j5 b,j5 c] (oV a b c).c:=by rw[zcK];exact zn5 a b c ha hb hc
theorem zp4(a b c d:K)(ha:a.sz≤100000)(hb:b.sz≤100000)(hc:c.sz≤100000)(hd:d.sz≤100000):PCall P 222 [Q9 a,Q9 b,Q9 c,Q9 d] (Q9 (a*d-b*c)):=by
 have m1:=K.sz_mul a d
 have m2:=K.sz_mul b c
 exact zmb a b c d (by omega) (by omega) (by omega)
end Go.Fw
open Go IntKind
namespace Go.Fw
set_option maxRecDepth 100000
theorem zjx(v w:VN)(s6_0:VN.raw 1000000 v=true)(s6_1:VN.raw 1000000 w=true):PCall P 141 [v.c,w.c] (z3J (z0t v w).x (z0t v w).y (z0t v w).z):=
 j6 (.r 6 (zp8 (v) (w) s6_0 s6_1) (.c (lq 30 30) .nil)) (by kernel_rfl)
theorem zic(v w:VN)(s6_0:VN.raw 1000000 v=true)(s6_1:VN.raw 1000000 w=true)(s13_0:RN.raw 1000000 (z4E v w).x=true)(s13_1:RN.raw 1000000 (z4E v w).y=true)(s16_0:RN.raw 1000000 (z3c (z4E v w).x (z4E v w).y)=true)(s16_1:RN.raw 1000000 (z4E v w).z=true):PCall P 149 [v.c,w.c] (RN.c (z3c (z3c (z4E v w).x (z4E v w).y) (z4E v w).z)):=
 j6 (.r 6 (znz (v) (w) s6_0 s6_1) (.c (lq 30 30) (.r 13 (zgz ((z4E v w).x) ((z4E v w).y) s13_0 s13_1) (.r 16 (zgz (z3c (z4E v w).x (z4E v w).y) ((z4E v w).z) s16_0 s16_1) (.c (lq 10 10) .nil))))) (by kernel_rfl)
theorem zmA(x y z x' y' z':K)(s4_0:x.sz≤1000000)(s4_1:y.sz≤1000000)(s4_2:z.sz≤1000000)(s8_0:x'.sz≤1000000)(s8_1:y'.sz≤1000000)(s8_2:z'.sz≤1000000)(s20_0:y.sz≤100000)(s20_1:z.sz≤100000)(s20_2:y'.sz≤100000)(s20_3:z'.sz≤100000)(s29_0:z.sz≤100000)(s29_1:x.sz≤100000)(s29_2:z'.sz≤100000)(s29_3:x'.sz≤100000)(s38_0:x.sz≤100000)(s38_1:y.sz≤100000)(s38_2:x'.sz≤100000)(s38_3:y'.sz≤100000):PCall P 170 [z5Z x y z,z5Z x' y' z'] (z5Z (y*z'-z*y') (z*x'-x*z') (x*y'-y*x')):=
 j6 (.r 4 (zaH (x) (y) (z) s4_0 s4_1 s4_2) (.r 8 (zaH (x') (y') (z') s8_0 s8_1 s8_2) (.r 20 (zp4 (y) (z) (y') (z') s20_0 s20_1 s20_2 s20_3) (.r 29 (zp4 (z) (x) (z') (x') s29_0 s29_1 s29_2 s29_3) (.r 38 (zp4 (x) (y) (x') (y') s38_0 s38_1 s38_2 s38_3) (.c (lq 30 30) .nil)))))) (by kernel_rfl)
end Go.Fw
open Go IntKind
namespace Go.Fw
set_option maxRecDepth 100000
theorem zh7(v:VN)(k:RN)(s9_0:VN.raw 1000000 v=true)(s9_1:RN.raw 1000000 k=true):PCall P 142 [v.c,k.c] (z3J (z4E v {x:=k,y:=k,z:=k}).x (z4E v {x:=k,y:=k,z:=k}).y (z4E v {x:=k,y:=k,z:=k}).z):=
 j6 (.r 9 (znd (v) (k) s9_0 s9_1) (.c (lq 30 30) .nil)) (by kernel_rfl)
end Go.Fw
open Go
namespace Go.Fw
set_option maxRecDepth 100000
theorem z9A(v w:VN)(hv:v.raw 1000000=true)(hw:w.raw 1000000=true):PCall P 141 [v.c,w.c] (z0t v w).c:=zjx v w hv hw
theorem zao(v:VN)(k:RN):z4E v ⟨k,k,k⟩=J8 v k:=by
 unfold z4E J8
 cases ev:toV v with
 |none=>rfl
 |some a=>
  have e:toV ⟨k,k,k⟩=(toO k).map fun c=>⟨c,c,c⟩:=by
   unfold toV
   cases ek:toO k<;>rfl
  rw[e]
  cases ek:toO k<;>rfl
theorem z4Q(v:VN)(k:RN)(hv:v.raw 1000000=true)(hk:k.raw 1000000=true):PCall P 142 [v.c,k.c] (J8 v k).c:=by
 rw[←zao]
 exact zh7 v k hv hk
theorem zb6(v w:VN):z3c (z3c (z4E v w).x (z4E v w).y) (z4E v w).z=zi0 v w:=by
 unfold zi0 z4E
 cases ev:toV v with
 |none=>show z3c (z3c .zero .zero) .zero= .zero;unfold z3c;rw[z4Z];rfl
 |some a=>
  cases ew:toV w with
  |none=>show z3c (z3c .zero .zero) .zero= .zero;unfold z3c;rw[z4Z];rfl
  |some b=>
   show z3c (z3c (.ofK (a.x*b.x)) (.ofK (a.y*b.y))) (.ofK (a.z*b.z))= .ofK (a.x*b.x+a.y*b.y+a.z*b.z)
   unfold z3c
   simp only[z6R,z8R]
   rfl
theorem zeg(v w:VN)(hv:v.raw 1000=true)(hw:w.raw 1000=true):PCall P 170 [v.c,w.c] (z3E v w).c:=by
 have hv':=VN.raw_mono hv (show 1000≤1000000 by decide)
 have hw':=VN.raw_mono hw (show 1000≤1000000 by decide)
 unfold z3E
 cases ev:toV v with
 |none=>exact zkD v w (z3x ev) hv'
 |some a=>
  cases ew:toV w with
  |none=>exact zou v w (zdu ev) (z3x ew) hv' hw'
  |some b=>
   obtain⟨x,y,z⟩:=z2X ev hv
   obtain⟨x',y',z'⟩:=z2X ew hw
   rw[zdN ev,zdN ew]
   refine zmA _ _ _ _ _ _ ?_ ?_ ?_ ?_ ?_ ?_ ?_ ?_ ?_ ?_ ?_ ?_ ?_ ?_ ?_ ?_ ?_ ?_<;>omega
noncomputable def zV(v:VN):Bool:=rnB v.x (oV 0 0 0).x&&(rnB v.y (oV 0 0 0).y&&(rnB v.z (oV 0 0 0).z&&true))
end Go.Fw
open Go
namespace Go.Fw
set_option maxRecDepth 100000
def plR(x y z d:RN):CV:= .agg (x.l++(y.l++(z.l++d.l)))
structure PN where
 n:VN
 d:RN
def PN.c(p:PN):CV:=plR p.n.x p.n.y p.n.z p.d
def PN.zero:PN:=⟨.zero,.zero⟩
def PN.raw(k:Nat)(p:PN):Bool:=p.n.raw k&&p.d.raw k
theorem PN.raw_iff{k:Nat}{p:PN}:p.raw k=true↔p.n.raw k=true∧p.d.raw k=true:=by unfold PN.raw;simp
theorem V4Of_r (a b c : Int) (ha : -9223372036854775808 ≤ a ∧ a ≤ 9223372036854775807) (hb : -9223372036854775808 ≤ b ∧ b ≤ 9223372036854775807) (hc : -9223372036854775808 ≤ c ∧ c ≤ 9223372036854775807) :
    PCall P 63 [j5 a,j5 b,j5 c] (oV a b c).c:=by rw[zcK];exact zhJ a b c ha hb hc
end Go.Fw
open Go
namespace Go.Fw
set_option maxRecDepth 100000
theorem sgn_zero{x:K}:K.sgn x=0↔x=0:=Sg.zero x
noncomputable def z1H(x y:RN):RN×Int:=match toO x,toO y with
 |some a,some b=>if K.sgn b=0 then(.zero,10)else(.ofK (K.div a b),0)
 |_,_=>(.zero,1)
theorem zdn(x y:RN)(hx:x.raw 1000000=true)(hy:y.raw 1000000=true):PCall P 147 [x.c,y.c] (.tup [(z1H x y).1.c,j5 (z1H x y).2]):=by
 unfold z1H
 cases ex:toO x with
 |none=>exact zhn x y (z1k ex) hx
 |some k=>
  cases ey:toO y with
  |none=>exact zji x y (z2d ex).1 (z1k ey) hx hy
  |some l=>
   have a:=z2V ex hx
   have b:=z2V ey hy
   rw[zi3 (z2d ex).2,zi3 (z2d ey).2]
   dsimp only
   by_cases h0:K.sgn l=0
   · rw[if_pos h0,sgn_zero.1 h0]
     exact znC k (by simp only[Smk];omega)
   · rw[if_neg h0]
     exact zgB k l (fun h=>h0 (sgn_zero.2 h)) (by omega)
end Go.Fw
open Go
namespace Go.Fw
set_option maxRecDepth 100000
noncomputable def PN.ok(p:PN):Bool:=p.n.ok&&(!zV p.n&&p.d.ok)
noncomputable def oN(n:Int):RN:=ofO (toO (ofO (some (K.ofInt n))))
theorem z9e(n:Int):oN n= .ofK (K.ofInt n):=by unfold oN;rw[z8R];rfl
theorem zkF(n:Int)(h: -9223372036854775808≤n∧n≤9223372036854775807):PCall P 144 [j5 n] (oN n).c:=by rw[z9e];exact z0o n h
end Go.Fw
open Go
namespace Go.Fw
set_option maxRecDepth 100000
noncomputable def kN(x:K):RN:=ofO (toO (ofO (some x)))
theorem z1P(x:K):kN x= .ofK x:=by unfold kN;rw[z8R];rfl
theorem zpk(i:Int):PCall P 33 [j5 i] (kN (X9 i)).c:=by rw[z1P];exact z7y i
theorem zpf(i:Int):PCall P 35 [j5 i] (kN (U0 i)).c:=by rw[z1P];exact zdS i
theorem z2x(x:K):toO (kN x)=some x:=by rw[z1P];exact z6R x
theorem zmJ(x y:K):z3c (kN x) (kN y)=kN (x+y):=by unfold z3c;rw[z2x,z2x,z1P];rfl
theorem znA(x:K):zf9 (kN x)=K.sgn x:=by unfold zf9;rw[z2x]
theorem zgx(n:Int):oN n=kN (K.ofInt n):=by rw[z9e,z1P]
theorem zds(x y:K)(h:K.sgn y≠0):(z1H (kN x) (kN y)).1=kN (K.div x y):=by
 unfold z1H
 rw[z2x,z2x]
 dsimp only
 rw[if_neg h,z1P]
end Go.Fw
open Go
namespace Go.Fw
set_option maxRecDepth 100000
theorem z33{x:K}{n:Nat}(h:x.sz≤n):(kN x).raw n=true:=by rw[z1P];exact RN.ofK_raw x h
theorem zbB{z:Int}{n:Nat}(h:(K.ofInt z).sz≤n):(oN z).raw n=true:=by rw[zgx];exact z33 h
end Go.Fw
open Go
namespace Go.Fw
set_option maxRecDepth 100000
theorem zpx(a b c:Int):(oV a b c).x=oN a:=by rw[zcK,z9e];rfl
theorem zpv(a b c:Int):(oV a b c).y=oN b:=by rw[zcK,z9e];rfl
theorem zpF(a b c:Int):(oV a b c).z=oN c:=by rw[zcK,z9e];rfl
theorem PN.raw_mono{p:PN}{n m:Nat}(h:p.raw n=true)(hm:n≤m):p.raw m=true:=by
 obtain⟨a,b⟩:=PN.raw_iff.1 h
 exact PN.raw_iff.2 ⟨VN.raw_mono a hm,RN.raw_mono b hm⟩
end Go.Fw
open Go Go.RowKit
namespace Go.Fw
set_option maxRecDepth 100000
def PN.a(p:PN):Array Value:=p.n.x.a++(p.n.y.a++(p.n.z.a++p.d.a))
end Go.Fw
open Go Go.RowKit
namespace Go.Fw
set_option maxRecDepth 100000
theorem zgO:(oN 1).raw 1=true:=by rw[z9e];kernel_rfl
end Go.Fw
open Go
namespace Go.Fw
set_option maxRecDepth 100000
theorem z7N(x y z:K):toV ⟨kN x,kN y,kN z⟩=some ⟨x,y,z⟩:=by
 unfold toV
 rw[z2x,z2x,z2x]
theorem zeY(x y z k:K):J8 ⟨kN x,kN y,kN z⟩ (kN k)=⟨kN (x*k),kN (y*k),kN (z*k)⟩:=by
 unfold J8
 rw[z7N,z2x,z1P,z1P,z1P]
 rfl
theorem zpn(n:Int)(h: -9223372036854775808≤n∧n≤9223372036854775807):PCall P 40 [j5 n] (oN n).c:=by rw[z9e];exact z3R n h
end Go.Fw
open Go IntKind
namespace Go.Fw
set_option maxRecDepth 100000
theorem zgi(n:Nat)(es:List CV){R:CV→Prop}(hR:Ok P 61 (loopHead P 61 0) ⟨J2 18 [(3,.cv (CV.lit (Value.slice none 0 0))),(6,.cv (.lst n es)),(7,.cv (.lit (.int .i64 (n:Int)))),(8,.cv (.lit (.int .i64 0)))],[]⟩ (.of R)):W6 P 61 [.lst n es] R:=
 Y3 (keep:=[3,6,7,8]) (σ:=[]) (.o 5 .stop .nil) (by kernel_rfl) rfl hR .nil
theorem zim(n:Nat)(es:List CV)(k mi mo:Int)(h1:decide (k<(n:Int))=true)(o1:(0:Int)≤k∧k<(n:Int))(o2:List.take 2 (List.drop (k.toNat*2) es)=[.lit (.int .i64 mi),.lit (.int .i64 mo)]){R:Goal}(hn:J0 R.n [2]=true)(hR:Ok P 61 (loopHead P 61 0) ⟨J2 18 [(3,.sl 0 0 1 2),(6,.cv (.lst n es)),(7,.cv (.lit (.int .i64 (n:Int)))),(8,.cv (.lit (.int .i64 (i64.wrap (k+1)))))],[some [.cv (.lit (.int .i64 mi)),.cv (.lit (.int .i64 mo))]]⟩ R):Ok P 61 (loopHead P 61 0) ⟨J2 18 [(3,.cv (CV.lit (Value.slice none 0 0))),(6,.cv (.lst n es)),(7,.cv (j5 (n:Int))),(8,.cv (j5 k))],[]⟩ R:=
 z0C (keep:=[3,6,7,8]) (σ:=[2]) (.b 2 h1 (.c o1 (.c o2 (.c (eqn 2) (.c (lq 2 2) (.c (lq 16 1099511627776) (.c (lq 1 1099511627776) (.c (show 0<1 from by decide) (.c (eqn 2) (.o 4 (.r (.agg [.lit (.int .i64 mi),.lit (.int .i64 mo)])) (.o 14 .stop .nil))))))))))) (by kernel_rfl) rfl hn hR (.cons (by simp[CvL]) .nil)
theorem zk7(n:Nat)(es:List CV)(k _mi _mo:Int)(h1:decide (k<(n:Int))=false){R:Goal}(hR:R.c (CV.lit (Value.slice none 0 0))):Ok P 61 (loopHead P 61 0) ⟨J2 18 [(3,.cv (CV.lit (Value.slice none 0 0))),(6,.cv (.lst n es)),(7,.cv (j5 (n:Int))),(8,.cv (j5 k))],[]⟩ R:=
 okT (.b 2 h1 .nil) (by kernel_rfl) hR
theorem ziO(n c:Nat)(es out:List CV)(k mi mo:Int)(h1:decide (k<(n:Int))=true)(o1:(0:Int)≤k∧k<(n:Int))(o2:List.take 2 (List.drop (k.toNat*2) es)=[.lit (.int .i64 mi),.lit (.int .i64 mo)])(o5:(c+1)*16≤1099511627776)(o6:c+1≤1099511627776)(o7:(own out).length=c*2)(o8:zaa [.cv (.lit (.int .i64 mi)),.cv (.lit (.int .i64 mo))])(o10:CvL (own out++[.cv (.lit (.int .i64 mi)),.cv (.lit (.int .i64 mo))])){R:Goal}(hn:J0 R.n [3]=true)(hR:Ok P 61 (loopHead P 61 0) ⟨J2 18 [(3,.sl 0 0 (c+1) 2),(6,.cv (.lst n es)),(7,.cv (.lit (.int .i64 (n:Int)))),(8,.cv (.lit (.int .i64 (i64.wrap (k+1)))))],[some (own out++[.cv (.lit (.int .i64 mi)),.cv (.lit (.int .i64 mo))])]⟩ R):Ok P 61 (loopHead P 61 0) ⟨J2 18 [(3,.sl 0 0 c 2),(6,.cv (.lst n es)),(7,.cv (j5 (n:Int))),(8,.cv (j5 k))],[some (own out)]⟩ R:=
 z0C (keep:=[3,6,7,8]) (σ:=[3]) (.b 2 h1 (.c o1 (.c o2 (.c (eqn 2) (.c (lq 2 2) (.c o5 (.c o6 (.c o7 (.c o8 (.c (eqn 2) (.o 4 (.r (.agg [.lit (.int .i64 mi),.lit (.int .i64 mo)])) (.o 14 .stop .nil)))))))))))) (by kernel_rfl) rfl hn hR (.cons o10 .nil)
theorem zkf(n c:Nat)(es out:List CV)(k _mi _mo:Int)(h1:decide (k<(n:Int))=false)(o1:List.take (c*2) (List.drop 0 (own out))=List.map MV.cv out){R:Goal}(hR:R.c (.lst c out)):Ok P 61 (loopHead P 61 0) ⟨J2 18 [(3,.sl 0 0 c 2),(6,.cv (.lst n es)),(7,.cv (j5 (n:Int))),(8,.cv (j5 k))],[some (own out)]⟩ R:=
 okT (.b 2 h1 (.c o1 (.o 5 (.r (CV.lit undef) [out]) .nil))) (by kernel_rfl) hR
theorem zm2(i o:Int)(h1:decide (o<(-10000:Int))=true):PCall P 182 [.agg [j5 i,j5 o]] (.lit (.bool true)):=
 j6 (.b 5 h1 .nil) (by kernel_rfl)
theorem znt(i o:Int)(h1:decide (o<(-10000:Int))=false):PCall P 182 [.agg [j5 i,j5 o]] (.lit (.bool (decide (o>10000)))):=
 j6 (.b 5 h1 .nil) (by kernel_rfl)
theorem zo0(n:Nat)(es:List CV){R:CV→Prop}(hR:Ok P 230 (loopHead P 230 0) ⟨J2 19 [(0,.cv (.lst n es)),(1,.cv (CV.lit (Value.func (Fn.func 182) {toList:=[]} {toList:=[]}))),(7,.cv (.lit (.int .i64 (n:Int)))),(8,.cv (.lit (.int .i64 0)))],[]⟩ (.of R)):W6 P 230 [.lst n es,CV.lit (Value.func (Fn.func 182) #[] #[])] R:=
 Y3 (keep:=[0,1,7,8]) (σ:=[]) (.o 4 .stop .nil) (by kernel_rfl) rfl hR .nil
end Go.Fw
open Go
namespace Go.Fw
set_option maxRecDepth 100000
theorem z9j(S:Nat→Prop)(n:Nat)(hs: ∀k,k<n→S (k+1)→S k)(he:S n):S 0:=by
 have h: ∀d k,k+d=n→S k:=by
  intro d
  induction d with
  |zero=>
   intro k hk
   obtain rfl:k=n:=by omega
   exact he
  |succ d ih=>
   intro k hk
   exact hs k (by omega) (ih (k+1) (by omega))
 exact h n 0 (by omega)
def flat{α:Type}(f:α→List CV)(l:List α):List CV:=l.flatMap f
section
variable{α:Type}{f:α→List CV}{s:Nat}
theorem z1N(x:α)(l:List α):flat f (x::l)=f x++flat f l:=by simp[flat]
theorem zeN(a b:List α):flat f (a++b)=flat f a++flat f b:=by simp[flat]
theorem z1e(hf: ∀x,(f x).length=s)(l:List α):(flat f l).length=l.length*s:=by
 induction l with
 |nil=>simp[flat]
 |cons x l ih=>rw[z1N,List.length_append,hf,ih,List.length_cons,Nat.add_mul,Nat.one_mul,Nat.add_comm]
theorem zdy(hf: ∀x,(f x).length=s)(l:List α)(k:Nat):(flat f l).drop (k*s)=flat f (l.drop k):=by
 induction l generalizing k with
 |nil=>simp[flat]
 |cons x l ih=>
  cases k with
  |zero=>rw[Nat.zero_mul];rfl
  |succ k=>
   have e:List.drop s (f x++flat f l)=flat f l:=by rw[←hf x,List.drop_left]
   rw[z1N,Nat.succ_mul,Nat.add_comm,←List.drop_drop,e,ih]
   rfl
theorem z0X(hf: ∀x,(f x).length=s){l:List α}{k:Nat}(hk:k<l.length):List.take s (List.drop (k*s) (flat f l))=f l[k]:=by
 rw[zdy hf,List.drop_eq_getElem_cons hk,z1N,List.take_append_of_le_length (by rw[hf];exact Nat.le_refl _),List.take_of_length_le (by rw[hf];exact Nat.le_refl _)]
theorem zc8{l:List α}{k:Nat}(hk:k<l.length):flat f (l.take (k+1))=flat f (l.take k)++f l[k]:=by
 rw[List.take_add_one,List.getElem?_eq_getElem hk,zeN]
 simp[flat]
end
def rdL(x:Int×Int):List CV:=[j5 x.1,j5 x.2]
theorem z0E(x:Int×Int):(rdL x).length=2:=rfl
def rdV(l:List (Int×Int)):CV:= .lst l.length (flat rdL l)
theorem zcE{P:Program}{f:FuncId}{args:List CV}(h:PCall P f args (.lit (.slice none 0 0))):PCall P f args (.lst 0 []):=by
 intro Im w vs him hrep
 refine(h Im w vs him hrep).mono ?_
 rintro e w' ⟨y,v,Im',rfl,rfl,hv,h1,h2,h3,h4⟩
 refine⟨y,_,Im',rfl,rfl,?_,h1,h2,h3,h4⟩
 unfold CV.rep at hv ⊢
 exact⟨none,0,hv,Nat.le_refl _,.inl ⟨rfl,rfl⟩⟩
theorem z6Y {α : Type} {s : Nat} (l : List α) (g : α → List CV) (hg : ∀ x, (g x).length = s) (S : Nat → Option (Nat × List CV) → Prop)
    (h0: ∀k (hk:k<l.length),S (k+1) (some (1,g l[k]))→S k none)
    (h1: ∀k (hk:k<l.length) c out,c≤k→out.length=c*s→S (k+1) (some (c+1,out++g l[k]))→S k (some (c,out)))
    (hl:l≠[]) (he:S l.length (some (l.length,flat g l))):S 0 none:=by
 have hp:=List.length_pos_iff.2 hl
 have key:=z9j (fun k=>if k=0 then S 0 none else S k (some (k,flat g (l.take k)))) l.length ?_ ?_
 · simpa using key
 · intro k hk h
   rw[if_neg (by omega),zc8 hk]at h
   by_cases hk0:k=0
   · subst hk0
     rw[if_pos rfl]
     exact h0 0 hp h
   · rw[if_neg hk0]
     exact h1 k hk k _ (Nat.le_refl _) (by rw[z1e hg,List.length_take,Nat.min_eq_left (by omega)]) h
 · rw[if_neg (by omega),List.take_length]
   exact he
end Go.Fw
open Go
namespace Go.Fw
set_option maxRecDepth 100000
theorem zgL(l:List (Int×Int))(hl:l.length<2^30):PCall P 61 [rdV l] (rdV l):=by
 cases l with
 | nil => exact zcE (zgi 0 [] (R := (· = _)) (zk7 0 [] 0 0 0 rfl rfl))
 |cons x t=>
  generalize hx:x::t=l at*
  have hne:l≠[]:=by rw[←hx];exact List.cons_ne_nil _ _
  refine zgi l.length (flat rdL l) (R := (· = _)) ?_
  refine z6Y (s:=2) l rdL z0E (fun k o=>Ok P 61 (loopHead P 61 0) (match o with
   |none=>⟨J2 18 [(3,.cv (.lit (.slice none 0 0))),(6,.cv (.lst l.length (flat rdL l))),(7,.cv (j5 l.length)),(8,.cv (j5 k))],[]⟩
   | some (c, out) => ⟨J2 18 [(3, .sl 0 0 c 2), (6, .cv (.lst l.length (flat rdL l))), (7, .cv (j5 l.length)), (8, .cv (j5 k))], [some (own out)]⟩) (.of (· = rdV l))) ?_ ?_ hne ?_
  · intro k hk h
    refine zim l.length (flat rdL l) k l[k].1 l[k].2 (decide_eq_true (by omega)) (by omega) (z0X z0E hk) rfl ?_
    rw[w64 (by omega)]
    exact h
  · intro k hk c out hc ho h
    refine ziO l.length c (flat rdL l) out k l[k].1 l[k].2 (decide_eq_true (by omega)) (by omega) (z0X z0E hk) (by omega) (by omega) (by simp[own,ho]) ?_ ?_ rfl ?_
    · simp[zaa,MV.one]
    · rw[show own out++[MV.cv (j5 l[k].1),MV.cv (j5 l[k].2)]=own (out++rdL l[k]) by simp[own,rdL]];exact CvL.map_cv _
    · rw[w64 (by omega)]
      simpa[own,rdL]using h
  · refine zkf l.length l.length (flat rdL l) (flat rdL l) l.length 0 0 (decide_eq_false (by omega)) ?_ rfl
    rw[List.drop_zero,List.take_of_length_le (by simp[own,z1e z0E])];rfl
def z4w(l:List (Int×Int)):Bool:=decide (l.length≤48)&&l.all fun x=>decide (-10000≤x.2∧x.2≤10000)
def rdP(x:Int×Int):Bool:=decide (-10000≤x.2∧x.2≤10000)
theorem zna(i o:Int):PCall P 182 [.agg [j5 i,j5 o]] (.lit (.bool (!rdP (i,o)))):=by
 by_cases h1:o< -10000
 · rw[show rdP (i,o)=false from decide_eq_false (by simp only;omega)]
   exact zm2 i o (decide_eq_true h1)
 · refine(znt i o (decide_eq_false h1)).eq ?_
   congr 2
   by_cases h2:o>10000
   · rw[decide_eq_true h2,show rdP (i,o)=false from decide_eq_false (by simp only;omega)];rfl
   · rw[decide_eq_false h2,show rdP (i,o)=true from decide_eq_true (by simp only;omega)];rfl
def ixF:List (Int×Int)→Nat→Int
 | [],_=> -1
 |x::l,k=>if rdP x then ixF l (k+1)else k
theorem zdQ: ∀(l:List (Int×Int)) (k:Nat),decide (ixF l k≥0)=!l.all rdP
 | [],_=>rfl
 |x::l,k=>by
  unfold ixF
  rw[List.all_cons]
  cases h:rdP x
  · rw[if_neg (by decide)]
    exact decide_eq_true (by omega)
  · rw[if_pos rfl,Bool.true_and];exact zdQ l (k+1)
end Go.Fw
open Go IntKind
namespace Go.Fw
set_option maxRecDepth 100000
theorem zgZ(n:Nat)(es:List CV)(k mi mo:Int)(h1:decide (k<(n:Int))=true)(h2:(!rdP (mi,mo))=true)(o1:(0:Int)≤k∧k<(n:Int))(o2:List.take 2 (List.drop (k.toNat*2) es)=[.lit (.int .i64 mi),.lit (.int .i64 mo)]){R:Goal}(hR:R.c (.lit (.int .i64 k))):Ok P 230 (loopHead P 230 0) ⟨J2 19 [(0,.cv (.lst n es)),(1,.cv (CV.lit (Value.func (Fn.func 182) #[] #[]))),(7,.cv (j5 (n:Int))),(8,.cv (j5 k))],[]⟩ R:=
 okT (.b 2 h1 (.c o1 (.c o2 (.c (eqn 2) (.c ((zna (mi) (mo)).eqB h2) (.o 9 (.r (.agg [.lit (.int .i64 mi),.lit (.int .i64 mo)])) (.o 10 (.r (.lit (.bool true))) .nil))))))) (by kernel_rfl) hR
theorem zjL(n:Nat)(es:List CV)(k mi mo:Int)(h1:decide (k<(n:Int))=true)(h2:(!rdP (mi,mo))=false)(o1:(0:Int)≤k∧k<(n:Int))(o2:List.take 2 (List.drop (k.toNat*2) es)=[.lit (.int .i64 mi),.lit (.int .i64 mo)]){R:Goal}(hn:J0 R.n []=true)(hR:Ok P 230 (loopHead P 230 0) ⟨J2 19 [(0,.cv (.lst n es)),(1,.cv (CV.lit (Value.func (Fn.func 182) {toList:=[]} {toList:=[]}))),(7,.cv (.lit (.int .i64 (n:Int)))),(8,.cv (.lit (.int .i64 (i64.wrap (k+1)))))],[]⟩ R):Ok P 230 (loopHead P 230 0) ⟨J2 19 [(0,.cv (.lst n es)),(1,.cv (CV.lit (Value.func (Fn.func 182) #[] #[]))),(7,.cv (j5 (n:Int))),(8,.cv (j5 k))],[]⟩ R:=
 z0C (keep:=[0,1,7,8]) (σ:=[]) (.b 2 h1 (.c o1 (.c o2 (.c (eqn 2) (.c ((zna (mi) (mo)).eqB h2) (.o 9 (.r (.agg [.lit (.int .i64 mi),.lit (.int .i64 mo)])) (.o 10 (.r (.lit (.bool false))) (.o 14 .stop .nil)))))))) (by kernel_rfl) rfl hn hR .nil
theorem zjE(n:Nat)(es:List CV)(k _mi _mo:Int)(h1:decide (k<(n:Int))=false){R:Goal}(hR:R.c (.lit (.int .i64 (-1:Int)))):Ok P 230 (loopHead P 230 0) ⟨J2 19 [(0,.cv (.lst n es)),(1,.cv (CV.lit (Value.func (Fn.func 182) #[] #[]))),(7,.cv (j5 (n:Int))),(8,.cv (j5 k))],[]⟩ R:=
 okT (.b 2 h1 .nil) (by kernel_rfl) hR
end Go.Fw
open Go
namespace Go.Fw
set_option maxRecDepth 100000
theorem zoW(l:List (Int×Int))(hl:l.length<2^30):PCall P 230 [rdV l,.lit (.func (.func 182) #[] #[])] (j5 (ixF l 0)):=by
 refine zo0 l.length (flat rdL l) (R := (· = _)) ?_
 have key:=z9j (fun k=> ∀R:Goal,J0 R.n []=true→R.c (j5 (ixF (l.drop k) k))→Ok P 230 (loopHead P 230 0) ⟨J2 19 [(0,.cv (.lst l.length (flat rdL l))),(1,.cv (.lit (.func (.func 182) #[] #[]))),(7,.cv (j5 l.length)),(8,.cv (j5 k))],[]⟩ R) l.length ?_ ?_
 · exact key _ rfl rfl
 · intro k hk ih R hn hR
   have b:(0:Int)≤(k:Int)∧(k:Int)<(l.length:Int):=by omega
   have i1:=decide_eq_true b.2
   rw[List.drop_eq_getElem_cons hk]at hR
   unfold ixF at hR
   cases h:rdP l[k]
   · rw[h,if_neg (by decide)]at hR
     exact zgZ l.length (flat rdL l) k l[k].1 l[k].2 i1 (by rw[show(l[k].1,l[k].2)=l[k]from rfl,h];rfl) b (z0X z0E hk) hR
   · rw[h,if_pos rfl]at hR
     refine zjL l.length (flat rdL l) k l[k].1 l[k].2 i1 (by rw[show(l[k].1,l[k].2)=l[k]from rfl,h];rfl) b (z0X z0E hk) hn ?_
     rw[w64 (by omega)]
     exact ih R hn hR
 · intro R hn hR
   rw[List.drop_length]at hR
   exact zjE l.length (flat rdL l) l.length 0 0 (decide_eq_false (by omega)) hR
end Go.Fw
open Go IntKind
namespace Go.Fw
set_option maxRecDepth 100000
theorem znK(l:List (Int×Int))(s3_0:l.length<2^30):PCall P 181 [rdV l,CV.lit (Value.func (Fn.func 182) #[] #[])] (.lit (.bool (decide (ixF l 0≥0)))):=
 j6 (.r 3 (zoW (l) s3_0) .nil) (by kernel_rfl)
theorem zlW(i:Int)(s1_0:(-9223372036854775808:Int)≤1∧(1:Int)≤9223372036854775807):PCall P 143 [j5 i] (z3J (oN (1:Int)) (kN (X9 i)) (kN (U0 i))):=
 j6 (.r 1 (zkF ((1:Int)) s1_0) (.r 3 (zpk (i)) (.r 5 (zpf (i)) (.c (lq 30 30) .nil)))) (by kernel_rfl)
end Go.Fw
open Go
namespace Go.Fw
set_option maxRecDepth 100000
theorem zb2{v w:VN}{n:Nat}(hv:v.raw n=true)(hw:w.raw n=true):(z3E v w).raw (n+n+n+n+3)=true:=by
 refine z7j ?_
 cases ev:toV v with
 |none=>exact Nat.zero_le _
 |some a=>
  cases ew:toV w with
  |none=>exact Nat.zero_le _
  |some b=>
   obtain⟨x,y,z⟩:=z2X ev hv
   obtain⟨x',y',z'⟩:=z2X ew hw
   have key: ∀c d e f:K,c.sz≤n→d.sz≤n→e.sz≤n→f.sz≤n→(c*d-e*f).sz≤n+n+n+n+3:=by
    intro c d e f h1 h2 h3 h4
    have m1:=K.sz_mul c d
    have m2:=K.sz_mul e f
    have m3:=K.sz_sub (c*d) (e*f)
    omega
   have k1:=key a.y b.z a.z b.y y z' z y'
   have k2:=key a.z b.x a.x b.z z x' x z'
   have k3:=key a.x b.y a.y b.x x y' y x'
   show max (a.y*b.z-a.z*b.y).sz (max (a.z*b.x-a.x*b.z).sz (a.x*b.y-a.y*b.x).sz)≤_
   omega
end Go.Fw
open Go
namespace Go.Fw
set_option maxRecDepth 100000
noncomputable def kV(a b c:K):VN:=⟨kN a,kN b,kN c⟩
theorem zid(a b c a' b' c':K):zi0 (kV a b c) (kV a' b' c')=kN (a*a'+b*b'+c*c'):=by
 unfold zi0 kV
 rw[z7N,z7N,z1P];rfl
theorem zj6(a b c a' b' c':K):z0t (kV a b c) (kV a' b' c')=kV (a+a') (b+b') (c+c'):=by
 unfold z0t kV
 rw[z7N,z7N,z1P,z1P,z1P];rfl
theorem zdv(a b c k:K):J8 (kV a b c) (kN k)=kV (a*k) (b*k) (c*k):=zeY a b c k
end Go.Fw
open Go
namespace Go.Fw
set_option maxRecDepth 100000
theorem z2I{v:VN}{k:RN}{n:Nat}(hv:v.raw n=true)(hk:k.raw n=true):(J8 v k).raw (n+n+1)=true:=by
 refine z7j ?_
 have hk':=z5d hk
 cases ev:toV v with
 |none=>exact Nat.zero_le _
 |some a=>
  cases ew:toO k with
  |none=>exact Nat.zero_le _
  |some b=>
   rw[ew]at hk'
   have hk':b.sz≤n:=hk'
   obtain⟨x,y,z⟩:=z2X ev hv
   have m1:=K.sz_mul a.x b
   have m2:=K.sz_mul a.y b
   have m3:=K.sz_mul a.z b
   show max (a.x*b).sz (max (a.y*b).sz (a.z*b).sz)≤n+n+1
   omega
end Go.Fw
open Go
namespace Go.Fw
set_option maxRecDepth 100000
theorem zok(v w:VN)(hv:v.raw 10000=true)(hw:w.raw 10000=true):PCall P 149 [v.c,w.c] (zi0 v w).c:=by
 have hm:(z4E v w).raw 100000=true:=by
  refine z7j ?_
  cases ev:toV v with
  |none=>exact Nat.zero_le _
  |some a=>
   cases ew:toV w with
   |none=>exact Nat.zero_le _
   |some b=>
    obtain⟨x,y,z⟩:=z2X ev hv
    obtain⟨x',y',z'⟩:=z2X ew hw
    have m1:=K.sz_mul a.x b.x
    have m2:=K.sz_mul a.y b.y
    have m3:=K.sz_mul a.z b.z
    show max (a.x*b.x).sz (max (a.y*b.y).sz (a.z*b.z).sz)≤100000
    omega
 obtain⟨h1,h2,h3⟩:=z0a.1 hm
 have h:=zic v w (VN.raw_mono hv (by decide)) (VN.raw_mono hw (by decide)) (RN.raw_mono h1 (by decide)) (RN.raw_mono h2 (by decide)) (RN.raw_mono (zhK h1 h2) (by decide)) (RN.raw_mono h3 (by decide))
 rwa[zb6]at h
end Go.Fw
open Go IntKind
namespace Go.Fw
set_option maxRecDepth 100000
theorem znf(u v w:VN)(s7_0:VN.raw 1000 v=true)(s7_1:VN.raw 1000 w=true)(s8_0:VN.raw 10000 u=true)(s8_1:VN.raw 10000 (z3E v w)=true):PCall P 175 [u.c,v.c,w.c] (RN.c (zi0 u (z3E v w))):=
 j6 (.r 7 (zeg (v) (w) s7_0 s7_1) (.r 8 (zok (u) (z3E v w) s8_0 s8_1) (.c (lq 10 10) .nil))) (by kernel_rfl)
end Go.Fw
open Go
namespace Go.Fw
set_option maxRecDepth 100000
noncomputable def W1(u v w:VN):RN:=zi0 u (z3E v w)
theorem zlT(u v w:VN)(hu:u.raw 1000=true)(hv:v.raw 1000=true)(hw:w.raw 1000=true):PCall P 175 [u.c,v.c,w.c] (W1 u v w).c:=
 znf u v w hv hw (VN.raw_mono hu (by decide)) (VN.raw_mono (zb2 hv hw) (by decide))
end Go.Fw
open Go
namespace Go.Fw
set_option maxRecDepth 100000
structure Q4 where
 a:Int
 b:Int
 c:Int
 d:Int
namespace Q4
def mul(x y:Q4):Q4:=⟨x.a*y.a+2*x.b*y.b+3*x.c*y.c+6*x.d*y.d,x.a*y.b+x.b*y.a+3*x.c*y.d+3*x.d*y.c,x.a*y.c+x.c*y.a+2*x.b*y.d+2*x.d*y.b,x.a*y.d+x.d*y.a+x.b*y.c+x.c*y.b⟩
def Sm(n:Nat)(x:Q4):Prop:=By4 n x.a x.b x.c x.d
end Q4
end Go.Fw
open Go
namespace Go.Fw
set_option maxRecDepth 100000
def oq(A:Q4)(d:Int):K:=K.of A.a A.b A.c A.d d
end Go.Fw
open Go
namespace Go.Fw
set_option maxRecDepth 100000
theorem Q4.Sm.mono{n m:Nat}{x:Q4}(h:Q4.Sm n x)(k:n≤m):Q4.Sm m x:=⟨h.1.mono k,h.2.1.mono k,h.2.2.1.mono k,h.2.2.2.mono k⟩
theorem Q4.Sm.mul{n m:Nat}{x y:Q4}(h:Q4.Sm n x)(k:Q4.Sm m y):Q4.Sm (n+m+4) (Q4.mul x y):=by
 obtain⟨h0,h1,h2,h3⟩:=h
 obtain⟨k0,k1,k2,k3⟩:=k
 have p: ∀{a b:Int},By n a→By m b→By (n+m+1) (a*b):=fun u v=>(u.mul v).mono (by omega)
 have q: ∀{a b:Int} (f:Int),-100≤f∧f≤100→By n a→By m b→By (n+m+1) (f*a*b):=fun f hf u v=>by
  have:=(u.mul v).k hf
  rwa[←Int.mul_assoc]at this
 have s: ∀{a b c d:Int},By (n+m+1) a→By (n+m+1) b→By (n+m+1) c→By (n+m+1) d→By (n+m+4) (a+b+c+d):=fun a b c d=>
  ((a.add b).add (c.mono (by omega))).add (d.mono (by omega))
 exact⟨s (p h0 k0) (q 2 (by decide) h1 k1) (q 3 (by decide) h2 k2) (q 6 (by decide) h3 k3),s (p h0 k1) (p h1 k0) (q 3 (by decide) h2 k3) (q 3 (by decide) h3 k2),
  s (p h0 k2) (p h2 k0) (q 2 (by decide) h1 k3) (q 2 (by decide) h3 k1),s (p h0 k3) (p h3 k0) (p h1 k2) (p h2 k1)⟩
end Go.Fw
open Go
namespace Go.Fw
set_option maxRecDepth 100000
def zpM(z:Int):Int×Bool:=if-9223372036854775808≤z∧z<9223372036854775808 then(z,true)else(0,false)
theorem i64_in{z:Int}(h: -9223372036854775808≤z∧z<9223372036854775808):zpM z=(z,true):=if_pos h
end Go.Fw
open Go
namespace Go.Fw
set_option maxRecDepth 100000
theorem zjp(i:Int){n:Nat}(h:1≤n):(kN (X9 i)).raw n=true:=z33 (Nat.le_trans (zcr i) h)
theorem zjz(i:Int){n:Nat}(h:1≤n):(kN (U0 i)).raw n=true:=z33 (Nat.le_trans (zca i) h)
end Go.Fw
open Go
namespace Go.Fw
set_option maxRecDepth 100000
theorem zpY{a b:Int}(h:a≠b):(a==b)=false:=by
 cases e:a==b
 · rfl
 · exact absurd (beq_iff_eq.1 e) h
end Go.Fw
open Go
namespace Go.Fw
set_option maxRecDepth 100000
theorem ziE{n:Int}(h1: -1000≤n)(h2:n≤1000):(K.ofInt n).sz≤2:=K.sz_int n (by decide) (by omega)
end Go.Fw
open Go
namespace Go.Fw
set_option maxRecDepth 100000
theorem znQ(l:List (Int×Int))(hl:l.length<2^30):PCall P 181 [rdV l,.lit (.func (.func 182) #[] #[])] (.lit (.bool (!l.all rdP))):=
 (znK l hl).eq (by rw[zdQ])
noncomputable def z08(i:Int):VN:=⟨oN 1,kN (X9 i),kN (U0 i)⟩
theorem zlb(i:Int):PCall P 143 [j5 i] (z08 i).c:=zlW i (by decide)
def vnL(v:VN):List CV:=v.x.l++(v.y.l++v.z.l)
def vnM(v:VN):List MV:=own (vnL v)
end Go.Fw
open Go IntKind
namespace Go.Fw
set_option maxRecDepth 100000
theorem zmp(l:List (Int×Int))(h1:decide ((↑l.length:Int)≤48)=true)(h2:(!l.all rdP)=true)(s6_0:l.length<2^30):PCall P 117 [rdV l] (.lit (.bool false)):=
 j6 (.b 4 h1 (.r 6 ((znQ (l) s6_0).eqB h2) .nil)) (by kernel_rfl)
theorem zlX(l:List (Int×Int))(h1:decide ((↑l.length:Int)≤48)=true)(h2:(!l.all rdP)=false)(s6_0:l.length<2^30):PCall P 117 [rdV l] (.lit (.bool true)):=
 j6 (.b 4 h1 (.r 6 ((znQ (l) s6_0).eqB h2) .nil)) (by kernel_rfl)
theorem zo7(l:List (Int×Int))(h1:decide ((↑l.length:Int)≤48)=false):PCall P 117 [rdV l] (.lit (.bool false)):=
 j6 (.b 4 h1 .nil) (by kernel_rfl)
end Go.Fw
open Go
namespace Go.Fw
set_option maxRecDepth 100000
theorem z72(l:List (Int×Int))(hl:l.length<2^30):PCall P 117 [rdV l] (.lit (.bool (z4w l))):=by
 have e:decide ((l.length:Int)≤48)=decide (l.length≤48):=by rw[decide_eq_decide];omega
 unfold z4w
 rw[←e]
 cases h1:decide ((l.length:Int)≤48)
 · exact zo7 l h1
 · cases h2:l.all rdP
   · exact(zmp l h1 (by rw[h2];rfl) hl).eq (by rw[show(l.all fun x=>decide (-10000≤x.2∧x.2≤10000))=false from h2];rfl)
   · exact(zlX l h1 (by rw[h2];rfl) hl).eq (by rw[show(l.all fun x=>decide (-10000≤x.2∧x.2≤10000))=true from h2];rfl)
theorem zgM(i:Int):(z08 i).raw 1=true:=z0a.2 ⟨zgO,zjp i (by decide),zjz i (by decide)⟩
end Go.Fw
open Go
namespace Go.Fw
set_option maxRecDepth 100000
theorem z6c{P:Program}{f:FuncId}{args:List CV}{c:CV}(h:PCall P f args (.tup [.lit (.slice none 0 0),c])):PCall P f args (.tup [.lst 0 [],c]):=by
 intro Im w vs him hrep
 refine(h Im w vs him hrep).mono ?_
 rintro e w' ⟨y,v,Im',rfl,rfl,hv,h1,h2,h3,h4⟩
 refine⟨y,_,Im',rfl,rfl,?_,h1,h2,h3,h4⟩
 unfold CV.rep at hv ⊢
 obtain⟨ys,h5,h6⟩:=hv
 refine⟨ys,h5,?_⟩
 unfold CV.repL at h6 ⊢
 obtain⟨y0,ys0,h7,h8,h9⟩:=h6
 refine⟨y0,ys0,h7,?_,h9⟩
 unfold CV.rep at h8 ⊢
 exact⟨none,0,h8,Nat.le_refl _,.inl ⟨rfl,rfl⟩⟩
theorem z8w{l:List (Int×Int)}(h:z4w l=true):l.length≤48∧ ∀k (hk:k<l.length),-10000≤l[k].2∧l[k].2≤10000:=by
 unfold z4w at h
 simp only[Bool.and_eq_true,decide_eq_true_eq,List.all_eq_true]at h
 exact⟨h.1,fun k hk=>h.2 _ (List.getElem_mem hk)⟩
theorem zgu{n:Int}(h: -10000≤n∧n≤10000):(K.ofInt n).sz≤2:=K.sz_int n (by decide) (by omega)
theorem zbZ(a b:List CV):CvL (own a++own b):=by rw[show own a++own b=own (a++b)from(z8Z a b).symm];exact CvL.map_cv _
end Go.Fw
open Go IntKind
namespace Go.Fw
set_option maxRecDepth 100000
theorem zmG(u v w:VN)(s10_0:VN.raw 1000 u=true)(s10_1:VN.raw 1000 v=true)(s10_2:VN.raw 1000 w=true):PCall P 145 [.lst 3 (vnL u++(vnL v++vnL w))] (RN.c (W1 u v w)):=
 j6 (.c (bq 0 3) (.c (bq 1 3) (.c (bq 2 3) (.r 10 (zlT (u) (v) (w) s10_0 s10_1 s10_2) (.c (lq 10 10) .nil))))) (by kernel_rfl)
end Go.Fw
open Go
namespace Go.Fw
set_option maxRecDepth 100000
theorem zei{x y:RN}{a b:Nat}(hx:x.raw a=true)(hy:y.raw b=true):(z3c x y).raw (a+b+1)=true:=by
 have h1:=z5d hx
 have h2:=z5d hy
 have h3:=zbm (toO x) (toO y)
 exact z5E (by omega)
end Go.Fw
open Go
namespace Go.Fw
set_option maxRecDepth 100000
def v3L(a b c:VN):List CV:=vnL a++(vnL b++vnL c)
def v3M(a b c:VN):List MV:=own (v3L a b c)
end Go.Fw
