/- A part of the proof that the law returns true for every input: an executor for the model's code, and what functions of the program compute. -/
import Derived.Test.YtcafjpldfnegiaaGreatDoorB10
import Derived.Test.YtcafjpldfnegiaaGreatDoorB11
import Derived.Test.YtcafjpldfnegiaaGreatDoorB15
import Derived.Test.YtcafjpldfnegiaaGreatDoorB29
import Derived.Test.YtcafjpldfnegiaaGreatDoorB41
import Derived.Test.YtcafjpldfnegiaaGreatDoorB42
import Derived.Test.YtcafjpldfnegiaaGreatDoorB43
import Derived.KernelRfl
import Derived.OrdersIn
import Derived.RangeFuncCalls
open Go
namespace Go.Fw
set_option maxRecDepth 100000
abbrev opC(f:Nat):CV:= .agg [.lit (.func (.func f) #[] #[])]
def V3.pmul(a b:V3):V3:=⟨a.x*b.x,a.y*b.y,a.z*b.z⟩
noncomputable def zma(v w:VN):VN:=ofV (o2 V3.pmul (toV v) (toV w))
noncomputable def oV(a b c:Int):VN:=ofV (toV (ofV (some ⟨K.ofInt a,K.ofInt b,K.ofInt c⟩)))
theorem zdP(a b c:Int):oV a b c=ofV (some ⟨K.ofInt a,K.ofInt b,K.ofInt c⟩):=by unfold oV;rw[zeB]
theorem zs9 (f : Nat) (g : V3 → V3 → V3) (v w : VN) (hv : v.raw 1000000 = true) (hw : w.raw 1000000 = true)
    (h: ∀a b:V3,a.x.sz≤1000000→a.y.sz≤1000000→a.z.sz≤1000000→b.x.sz≤1000000→b.y.sz≤1000000→b.z.sz≤1000000→PCall P 205 [opC f,a.c,b.c] (g a b).c):
    PCall P 205 [opC f,v.c,w.c] (ofV (o2 g (toV v) (toV w))).c:=by
 cases ev:toV v with
 |none=>exact zno f v w (zaH ev) hv
 |some a=>
  cases ew:toV w with
  |none=>exact zpH f v w (zhT ev) (zaH ew) hv hw
  |some b=>
   obtain⟨x,y,z⟩:=zhY ev hv
   obtain⟨x',y',z'⟩:=zhY ew hw
   rw[zod ev,zod ew]
   exact h a b x y z x' y' z'
theorem zsH(v w:VN)(hv:v.raw 1000000=true)(hw:w.raw 1000000=true):PCall P 205 [opC 136,v.c,w.c] (zma v w).c:=
 zs9 136 V3.pmul v w hv hw fun a b x y z x' y' z'=>znQ _ _ _ _ _ _ x y z x' y' z' (by omega) (by omega) (by omega)
theorem zqa(v:VN)(k:RN)(hv:v.raw 1000000=true)(hk:k.raw 1000000=true):PCall P 205 [opC 136,v.c,ziQ k k k] (zma v ⟨k,k,k⟩).c:=
 zsH v ⟨k,k,k⟩ hv (z0q.2 ⟨hk,hk,hk⟩)
theorem zrQ (a b c : Int) (ha : -9223372036854775808 ≤ a ∧ a ≤ 9223372036854775807) (hb : -9223372036854775808 ≤ b ∧ b ≤ 9223372036854775807) (hc : -9223372036854775808 ≤ c ∧ c ≤ 9223372036854775807) :
    PCall P 139 [j4 a,j4 b,j4 c] (oV a b c).c:=by rw[zdP];exact zoj a b c ha hb hc
end Go.Fw
open Go IntKind
namespace Go.Fw
set_option maxRecDepth 100000
theorem ziW(v:VN)(k:RN)(s9_0:VN.raw 1000000 v=true)(s9_1:RN.raw 1000000 k=true):PCall P 142 [v.c,k.c] (ziQ (zma v {x:=k,y:=k,z:=k}).x (zma v {x:=k,y:=k,z:=k}).y (zma v {x:=k,y:=k,z:=k}).z):=
 j3 (.r 9 (zqa (v) (k) s9_0 s9_1) (.c (lq 30 30) .nil)) (by kernel_rfl)
theorem zpR(v:VN)(s3_0 s3_1 s3_2:(-9223372036854775808:Int)≤0∧(0:Int)≤9223372036854775807):PCall P 163 [v.c] (.lit (.bool (rnB v.x (oV (0:Int) (0:Int) (0:Int)).x&&(rnB v.y (oV (0:Int) (0:Int) (0:Int)).y&&(rnB v.z (oV (0:Int) (0:Int) (0:Int)).z&&true))))):=
 j3 (.r 3 (zrQ ((0:Int)) ((0:Int)) ((0:Int)) s3_0 s3_1 s3_2) .nil) (by kernel_rfl)
end Go.Fw
open Go
namespace Go.Fw
set_option maxRecDepth 100000
theorem zbq(v:VN)(k:RN):zma v ⟨k,k,k⟩=z3W v k:=by
 unfold zma z3W
 cases ev:toV v with
 |none=>rfl
 |some a=>
  have e:toV ⟨k,k,k⟩=(toO k).map fun c=>⟨c,c,c⟩:=by
   unfold toV
   cases ek:toO k<;>rfl
  rw[e]
  cases ek:toO k<;>rfl
theorem zfs(v:VN)(k:RN)(hv:v.raw 1000000=true)(hk:k.raw 1000000=true):PCall P 142 [v.c,k.c] (z3W v k).c:=by
 rw[←zbq]
 exact ziW v k hv hk
noncomputable def zV(v:VN):Bool:=rnB v.x (oV 0 0 0).x&&(rnB v.y (oV 0 0 0).y&&(rnB v.z (oV 0 0 0).z&&true))
theorem z9M(v:VN):PCall P 163 [v.c] (.lit (.bool (zV v))):=zpR v (by decide) (by decide) (by decide)
end Go.Fw
open Go
namespace Go.Fw
set_option maxRecDepth 100000
def plR(x y z d:RN):CV:= .agg (x.l++(y.l++(z.l++d.l)))
def za3:CV:=plR .zero .zero .zero .zero
structure PN where
 n:VN
 d:RN
def PN.c(p:PN):CV:=plR p.n.x p.n.y p.n.z p.d
def PN.zero:PN:=⟨.zero,.zero⟩
def PN.raw(k:Nat)(p:PN):Bool:=p.n.raw k&&p.d.raw k
theorem PN.raw_iff{k:Nat}{p:PN}:p.raw k=true↔p.n.raw k=true∧p.d.raw k=true:=by unfold PN.raw;simp
theorem zhC (a b c : Int) (ha : -9223372036854775808 ≤ a ∧ a ≤ 9223372036854775807) (hb : -9223372036854775808 ≤ b ∧ b ≤ 9223372036854775807) (hc : -9223372036854775808 ≤ c ∧ c ≤ 9223372036854775807) :
    PCall P 63 [j4 a,j4 b,j4 c] (oV a b c).c:=by rw[zdP];exact zlE a b c ha hb hc
end Go.Fw
open Go
namespace Go.Fw
set_option maxRecDepth 100000
theorem sgn_zero{x:K}:K.sgn x=0↔x=0:=Sg.zero x
noncomputable def J8(x y:RN):RN×Int:=match toO x,toO y with
 |some a,some b=>if K.sgn b=0 then(.zero,10)else(.ofK (K.div a b),0)
 |_,_=>(.zero,1)
theorem zmU(x y:RN)(hx:x.raw 1000000=true)(hy:y.raw 1000000=true):PCall P 147 [x.c,y.c] (.tup [(J8 x y).1.c,j4 (J8 x y).2]):=by
 unfold J8
 cases ex:toO x with
 |none=>exact zl5 x y (z01 ex) hx
 |some k=>
  cases ey:toO y with
  |none=>exact zkF x y (z0O ex).1 (z01 ey) hx hy
  |some l=>
   have a:=z0P ex hx
   have b:=z0P ey hy
   rw[z94 (z0O ex).2,z94 (z0O ey).2]
   dsimp only
   by_cases h0:K.sgn l=0
   · rw[if_pos h0,sgn_zero.1 h0]
     exact zom k (by simp only[Smk];omega)
   · rw[if_neg h0]
     exact zho k l (fun h=>h0 (sgn_zero.2 h)) (by omega)
noncomputable def z70(x:RN):RN:=if z0a x<0 then z44 x else z44 (z44 x)
end Go.Fw
open Go IntKind
namespace Go.Fw
set_option maxRecDepth 100000
theorem zol(x:RN)(h1:decide (z0a x<0)=true)(s3_0 s7_0:RN.raw 1000000 x=true):PCall P 157 [x.c] (RN.c (z44 x)):=
 j3 (.r 3 (z0n (x) s3_0) (.b 5 h1 (.r 7 (zau (x) s7_0) (.c (lq 10 10) .nil)))) (by kernel_rfl)
theorem zoN(x:RN)(h1:decide (z0a x<0)=false)(s3_0 s7_0:RN.raw 1000000 x=true)(s8_0:RN.raw 1000000 (z44 x)=true):PCall P 157 [x.c] (RN.c (z44 (z44 x))):=
 j3 (.r 3 (z0n (x) s3_0) (.b 5 h1 (.r 7 (zau (x) s7_0) (.r 8 (zau (z44 x) s8_0) (.c (lq 10 10) .nil))))) (by kernel_rfl)
theorem zpF(x y:RN)(s5_0:RN.raw 1000000 x=true)(s5_1:RN.raw 1000000 y=true):PCall P 156 [x.c,y.c] (RN.c (J8 x y).fst):=
 j3 (.r 5 (zmU (x) (y) s5_0 s5_1) (.c (lq 10 10) (.c (lq 10 10) .nil))) (by kernel_rfl)
theorem zny(p:PN)(h1:(p.n.ok)=true)(h2:(zV p.n)=true)(s4_0:VN.raw 1000000 p.n=true):PCall P 79 [p.c] (.lit (.bool false)):=
 j3 (.r 4 ((zhH (p.n) s4_0).eqB h1) (.r 8 ((z9M (p.n)).eqB h2) .nil)) (by kernel_rfl)
theorem zpd(p:PN)(h1:(p.n.ok)=true)(h2:(zV p.n)=false)(h3:(p.d.ok)=true)(s4_0:VN.raw 1000000 p.n=true)(s14_0:RN.raw 1000000 p.d=true):PCall P 79 [p.c] (.lit (.bool true)):=
 j3 (.r 4 ((zhH (p.n) s4_0).eqB h1) (.r 8 ((z9M (p.n)).eqB h2) (.r 14 ((z1c (p.d) s14_0).eqB h3) .nil))) (by kernel_rfl)
theorem zoB(p:PN)(h1:(p.n.ok)=true)(h2:(zV p.n)=false)(h3:(p.d.ok)=false)(s4_0:VN.raw 1000000 p.n=true)(s14_0:RN.raw 1000000 p.d=true):PCall P 79 [p.c] (.lit (.bool false)):=
 j3 (.r 4 ((zhH (p.n) s4_0).eqB h1) (.r 8 ((z9M (p.n)).eqB h2) (.r 14 ((z1c (p.d) s14_0).eqB h3) .nil))) (by kernel_rfl)
theorem zoH(p:PN)(h1:(p.n.ok)=false)(s4_0:VN.raw 1000000 p.n=true):PCall P 79 [p.c] (.lit (.bool false)):=
 j3 (.r 4 ((zhH (p.n) s4_0).eqB h1) .nil) (by kernel_rfl)
end Go.Fw
open Go
namespace Go.Fw
set_option maxRecDepth 100000
theorem zhu(x:RN)(hx:x.raw 1000000=true):PCall P 157 [x.c] (z70 x).c:=by
 unfold z70
 by_cases h:z0a x<0
 · rw[if_pos h];exact zol x (decide_eq_true h) hx hx
 · rw[if_neg h];exact zoN x (decide_eq_false h) hx hx (z4M hx)
theorem z3s(x y:RN)(hx:x.raw 1000000=true)(hy:y.raw 1000000=true):PCall P 156 [x.c,y.c] (J8 x y).1.c:=zpF x y hx hy
noncomputable def PN.ok(p:PN):Bool:=p.n.ok&&(!zV p.n&&p.d.ok)
theorem z2X(p:PN)(hp:p.raw 1000000=true):PCall P 79 [p.c] (.lit (.bool p.ok)):=by
 obtain⟨hn,hd⟩:=PN.raw_iff.1 hp
 unfold PN.ok
 cases e1:p.n.ok
 · exact zoH p e1 hn
 · cases e2:zV p.n
   · cases e3:p.d.ok
     · exact zoB p e1 e2 e3 hn hd
     · exact zpd p e1 e2 e3 hn hd
   · exact zny p e1 e2 hn
noncomputable def oN(n:Int):RN:=ofO (toO (ofO (some (K.ofInt n))))
theorem z9R(n:Int):oN n= .ofK (K.ofInt n):=by unfold oN;rw[z9f];rfl
theorem z25(n:Int)(h: -9223372036854775808≤n∧n≤9223372036854775807):PCall P 144 [j4 n] (oN n).c:=by rw[z9R];exact z0G n h
noncomputable def z92(x:RN):RN:=(J8 (oN 1) (z70 x)).1
noncomputable def z4u(p:PN)(x:RN):PN:=⟨z3W p.n (z92 x),J9 p.d (z92 x)⟩
end Go.Fw
open Go IntKind
namespace Go.Fw
set_option maxRecDepth 100000
theorem znp(x y:RN)(s5_0:RN.raw 1000000 y=true)(s6_0:RN.raw 1000000 x=true)(s6_1:RN.raw 1000000 (z44 y)=true):PCall P 135 [x.c,y.c] (RN.c (z0Y x (z44 y))):=
 j3 (.r 5 (zau (y) s5_0) (.r 6 (z8H (x) (z44 y) s6_0 s6_1) (.c (lq 10 10) .nil))) (by kernel_rfl)
theorem zfb:PCall P 164 [j4 4,j4 3] (.lit (.int .i64 1)):=
 j3 (.c (nz 3) (.c (nz 1) .nil)) (by kernel_rfl)
theorem zlD:PCall P 217 [.agg [.lit (.bool false),.lit (.string {data:= #[(3:UInt8)]})]] (.tup [.lit (.int .i64 3),.lit (.bool true)]):=
 j3 (.r 4 (W8 (false) ({data:= #[(3:UInt8)]})) (.c (nn 8) (.c (bq 0 1) .nil))) (by kernel_rfl)
theorem zkh:PCall P 217 [.agg [.lit (.bool false),.lit (.string {data:= #[(4:UInt8)]})]] (.tup [.lit (.int .i64 4),.lit (.bool true)]):=
 j3 (.r 4 (W8 (false) ({data:= #[(4:UInt8)]})) (.c (nn 8) (.c (bq 0 1) .nil))) (by kernel_rfl)
end Go.Fw
open Go
namespace Go.Fw
set_option maxRecDepth 100000
noncomputable def kN(x:K):RN:=ofO (toO (ofO (some x)))
theorem z1b(x:K):kN x= .ofK x:=by unfold kN;rw[z9f];rfl
theorem zbs(i:Int):PCall P 33 [j4 i] (kN (Z8 i)).c:=by rw[z1b];exact z8U i
theorem zbz(i:Int):PCall P 35 [j4 i] (kN (Y0 i)).c:=by rw[z1b];exact zc6 i
theorem z0o(x:K):toO (kN x)=some x:=by rw[z1b];exact z98 x
theorem z2w(x y:K):J9 (kN x) (kN y)=kN (x*y):=by unfold J9;rw[z0o,z0o,z1b];rfl
theorem zhP(x y:K):z0Y (kN x) (kN y)=kN (x+y):=by unfold z0Y;rw[z0o,z0o,z1b];rfl
theorem zhW(x y:K):z2Q (kN x) (kN y)=kN (x-y):=by unfold z2Q;rw[z0o,z0o,z1b];rfl
theorem zhh(x:K):z44 (kN x)=kN (-x):=by unfold z44;rw[z0o,z1b];rfl
theorem z5e(x:K):z0a (kN x)=K.sgn x:=by unfold z0a;rw[z0o]
theorem z2M(n:Int):oN n=kN (K.ofInt n):=by rw[z9R,z1b]
theorem zaQ(x y:K)(h:K.sgn y≠0):(J8 (kN x) (kN y)).1=kN (K.div x y):=by
 unfold J8
 rw[z0o,z0o]
 dsimp only
 rw[if_neg h,z1b]
end Go.Fw
open Go
namespace Go.Fw
set_option maxRecDepth 100000
theorem zaP(x y:RN)(hx:x.raw 1000000=true)(hy:y.raw 1000000=true):PCall P 135 [x.c,y.c] (z2Q x y).c:=by
 have h:=znp x y hy hx (z4M hy)
 have e:z0Y x (z44 y)=z2Q x y:=by unfold z0Y z2Q;rw[zaD,znu]
 rw[e]at h
 exact h
def k34:K:=⟨3,0,0,0,4,by decide,by decide⟩
def k54:K:=⟨5,0,0,0,4,by decide,by decide⟩
theorem ztx:PCall P 217 [.agg [.lit (.bool (kN k34).b0),.lit (.string (kN k34).s0)]] (.tup [j4 3,.lit (.bool true)]):=by
 rw[z1b,show(RN.ofK k34).s0=⟨#[3]⟩ by kernel_rfl]
 exact zlD
theorem zts:PCall P 217 [.agg [.lit (.bool (kN k34).b4),.lit (.string (kN k34).s4)]] (.tup [j4 4,.lit (.bool true)]):=by
 rw[z1b,show(RN.ofK k34).s4=⟨#[4]⟩ by kernel_rfl]
 exact zkh
end Go.Fw
open Go IntKind
namespace Go.Fw
set_option maxRecDepth 100000
theorem zjs(x y:RN)(g1:(z0a (z2Q (J9 x (kN (Y0 (0:Int)))) (J9 y (kN (Z8 (0:Int)))))==0)=true)(g2:decide (z0a (z0Y (J9 x (kN (Z8 (0:Int)))) (J9 y (kN (Y0 (0:Int)))))>0)=true)(s21_0:RN.raw 1000000 x=true)(s21_1:RN.raw 1000000 (kN (Y0 (0:Int)))=true)(s24_0:RN.raw 1000000 y=true)(s24_1:RN.raw 1000000 (kN (Z8 (0:Int)))=true)(s25_0:RN.raw 1000000 (J9 x (kN (Y0 (0:Int))))=true)(s25_1:RN.raw 1000000 (J9 y (kN (Z8 (0:Int))))=true)(s30_0:RN.raw 1000000 x=true)(s30_1:RN.raw 1000000 (kN (Z8 (0:Int)))=true)(s33_0:RN.raw 1000000 y=true)(s33_1:RN.raw 1000000 (kN (Y0 (0:Int)))=true)(s34_0:RN.raw 1000000 (J9 x (kN (Z8 (0:Int))))=true)(s34_1:RN.raw 1000000 (J9 y (kN (Y0 (0:Int))))=true)(s38_0:RN.raw 1000000 (z2Q (J9 x (kN (Y0 (0:Int)))) (J9 y (kN (Z8 (0:Int)))))=true)(s42_0:RN.raw 1000000 (z0Y (J9 x (kN (Z8 (0:Int)))) (J9 y (kN (Y0 (0:Int)))))=true):PCall P 158 [x.c,y.c] (.tup [.lit (.int .i64 0),RN.c (z0Y (J9 x (kN (Z8 (0:Int)))) (J9 y (kN (Y0 (0:Int))))),.lit (.bool true)]):=
 j3 (.r 12 (zbs ((0:Int))) (.r 14 (zbz ((0:Int))) (.c (lq 10 10) (.c (lq 10 10) (.r 21 (z0r (x) (kN (Y0 (0:Int))) s21_0 s21_1) (.r 24 (z0r (y) (kN (Z8 (0:Int))) s24_0 s24_1) (.r 25 (zaP (J9 x (kN (Y0 (0:Int)))) (J9 y (kN (Z8 (0:Int)))) s25_0 s25_1) (.c (lq 10 10) (.r 30 (z0r (x) (kN (Z8 (0:Int))) s30_0 s30_1) (.r 33 (z0r (y) (kN (Y0 (0:Int))) s33_0 s33_1) (.r 34 (z8H (J9 x (kN (Z8 (0:Int)))) (J9 y (kN (Y0 (0:Int)))) s34_0 s34_1) (.c (lq 10 10) (.r 38 (z0n (z2Q (J9 x (kN (Y0 (0:Int)))) (J9 y (kN (Z8 (0:Int))))) s38_0) (.b 40 g1 (.r 42 (z0n (z0Y (J9 x (kN (Z8 (0:Int)))) (J9 y (kN (Y0 (0:Int))))) s42_0) (.b 45 g2 (.c (lq 10 10) .nil))))))))))))))))) (by kernel_rfl)
theorem zj3(x:K)(h1:((bytesOf x.c1.natAbs).toList==[])=true)(h2:((bytesOf x.c2.natAbs).toList==[])=true)(s3_0:Smk x):PCall P 218 [Z4 x] (.lit (.bool ((bytesOf x.c3.natAbs).toList==[]))):=
 j3 (.r 3 (z03 (x) s3_0) (.c (bq 1 4) (.b 11 h1 (.c (bq 2 4) (.b 18 h2 (.c (bq 3 4) .nil)))))) (by kernel_rfl)
theorem znS:PCall P 81 [.agg [j4 4,j4 3,j4 0]] (.lit (.bool true)):=
 j3 (.r 29 (zfb) .nil) (by kernel_rfl)
end Go.Fw
open Go
namespace Go.Fw
set_option maxRecDepth 100000
theorem zf8:FCall P 195 [Y7 (bytesOf 3)] (.sl 0 0 1 1) [j4 3]:=z1K (bytesOf 3) (by decide)
theorem zfW:FCall P 195 [Y7 (bytesOf 5)] (.sl 0 0 1 1) [j4 5]:=z1K (bytesOf 5) (by decide)
theorem p3S:PCall P 183 [.agg [.lit (.bool false),Y7 (bytesOf 3)]] (j4 1):=Q7 3
theorem p5S:PCall P 183 [.agg [.lit (.bool false),Y7 (bytesOf 5)]] (j4 1):=Q7 5
theorem p3G:PCall P 184 [.agg [.lit (.bool false),Y7 (bytesOf 3)],.agg [.lit (.bool false),Y7 (bytesOf 4)]] (.agg [.lit (.bool false),Y7 (bytesOf 1)]):=z62 3 4 (by decide) (by decide)
theorem p5G:PCall P 184 [.agg [.lit (.bool false),Y7 (bytesOf 5)],.agg [.lit (.bool false),Y7 (bytesOf 4)]] (.agg [.lit (.bool false),Y7 (bytesOf 1)]):=z62 5 4 (by decide) (by decide)
theorem p3A:PCall P 186 [.agg [.lit (.bool false),Y7 (bytesOf 3)]] (.agg [.lit (.bool false),Y7 (bytesOf 3)]):=z2T 3
theorem p5A:PCall P 186 [.agg [.lit (.bool false),Y7 (bytesOf 5)]] (.agg [.lit (.bool false),Y7 (bytesOf 5)]):=z2T 5
theorem p3O:PCall P 185 [.agg [.lit (.bool false),Y7 (bytesOf 3)],.agg [.lit (.bool false),Y7 (bytesOf 1)]] (.agg [.lit (.bool false),Y7 (bytesOf 3)]):=z2Z 3 1 (by decide) (by decide) (by decide) (by decide)
theorem p5O:PCall P 185 [.agg [.lit (.bool false),Y7 (bytesOf 5)],.agg [.lit (.bool false),Y7 (bytesOf 1)]] (.agg [.lit (.bool false),Y7 (bytesOf 5)]):=z2Z 5 1 (by decide) (by decide) (by decide) (by decide)
end Go.Fw
open Go IntKind
namespace Go.Fw
set_option maxRecDepth 100000
theorem RPr3_p1:PCall P 187 [.agg [.lit (.bool false),Y7 (bytesOf 3)]] (.lit (.string (Utf8.encode (51:Int)++{data:= #[]}))):=
 j3 (.c (J4 (false) (bytesOf 3)) (.c (zf8) (.c (bq 0 1) (.c (nz 10) (.c (bq 0 1) (.c (lq 1 1) (.c (nz 10) (.c (zcJ) (.c (show BlksCv [some [.cv (.lit (.int .i64 0))],some [.cv (.lit (.int .i64 0))]]from(by simp[BlksCv,zdc])) (.c (show(1:Int)≤9223372036854775807 from by decide) (.o 3 (.r (.lit (.bool true))) (.o 14 (.f (.sl 0 0 1 1) [j4 3]) (.o 56 (.m [2] (.sl 0 0 0 1) [some [.cv (j4 0)]]) .nil))))))))))))) (by kernel_rfl)
theorem RPr5_p1:PCall P 187 [.agg [.lit (.bool false),Y7 (bytesOf 5)]] (.lit (.string (Utf8.encode (53:Int)++{data:= #[]}))):=
 j3 (.c (J4 (false) (bytesOf 5)) (.c (zfW) (.c (bq 0 1) (.c (nz 10) (.c (bq 0 1) (.c (lq 1 1) (.c (nz 10) (.c (zcJ) (.c (show BlksCv [some [.cv (.lit (.int .i64 0))],some [.cv (.lit (.int .i64 0))]]from(by simp[BlksCv,zdc])) (.c (show(1:Int)≤9223372036854775807 from by decide) (.o 3 (.r (.lit (.bool true))) (.o 14 (.f (.sl 0 0 1 1) [j4 5]) (.o 56 (.m [2] (.sl 0 0 0 1) [some [.cv (j4 0)]]) .nil))))))))))))) (by kernel_rfl)
theorem zi2:PCall P 188 [j4 0] (.lit (.string {data:= #[]})):=
 j3 (.c (bq 0 4) .nil) (by kernel_rfl)
end Go.Fw
open Go
namespace Go.Fw
set_option maxRecDepth 100000
theorem p3P:PCall P 187 [.agg [.lit (.bool false),Y7 (bytesOf 3)]] (Y7 ⟨#[51]⟩):=RPr3_p1.eq (by kernel_rfl)
theorem p5P:PCall P 187 [.agg [.lit (.bool false),Y7 (bytesOf 5)]] (Y7 ⟨#[53]⟩):=RPr5_p1.eq (by kernel_rfl)
theorem zqn:k34.sz≤1000:=of_decide_eq_true (by kernel_rfl)
theorem zsA:k54.sz≤1000:=of_decide_eq_true (by kernel_rfl)
theorem zt0:PCall P 124 [n5C 3 0 0 0 4] (.lit (.bool true)):=z0A k34 (by have:=zqn;omega)
theorem zsZ:PCall P 124 [n5C 5 0 0 0 4] (.lit (.bool true)):=z0A k54 (by have:=zsA;omega)
end Go.Fw
open Go
namespace Go.Fw
set_option maxRecDepth 100000
theorem z2y{x:K}{n:Nat}(h:x.sz≤n):(kN x).raw n=true:=by rw[z1b];exact RN.ofK_raw x h
theorem z0T{z:Int}{n:Nat}(h:(K.ofInt z).sz≤n):(oN z).raw n=true:=by rw[z2M];exact z2y h
theorem zmZ:(Z8 0).sz≤10:=of_decide_eq_true (by kernel_rfl)
theorem zns:(Y0 0).sz≤10:=of_decide_eq_true (by kernel_rfl)
theorem zrV:(K.ofInt 0).sz≤10:=of_decide_eq_true (by kernel_rfl)
theorem zrE:(K.ofInt 1).sz≤10:=of_decide_eq_true (by kernel_rfl)
theorem ztk:(K.ofInt 3).sz≤10:=of_decide_eq_true (by kernel_rfl)
theorem zry:(K.ofInt 4).sz≤10:=of_decide_eq_true (by kernel_rfl)
theorem zs1:(K.ofInt 5).sz≤10:=of_decide_eq_true (by kernel_rfl)
theorem zrO:PCall P 218 [(kN k34).c] (.lit (.bool true)):=by
 have h:=zj3 k34 (by kernel_rfl) (by kernel_rfl) (by have:=zqn;simp only[Smk];omega)
 rw[show((bytesOf k34.c3.natAbs).toList==[])=true by kernel_rfl]at h
 rw[z1b]
 exact h
theorem zsF:PCall P 156 [(kN k34).c,(oN 1).c] (kN k34).c:=by
 have h:=z3s (kN k34) (oN 1) (z2y (Nat.le_trans zqn (by decide))) (z0T (Nat.le_trans zrE (by decide)))
 rw[z2M,zaQ _ _ (by rw[show K.sgn (K.ofInt 1)=1 by kernel_rfl];decide),show K.div k34 (K.ofInt 1)=k34 by kernel_rfl]at h
 rw[z2M];exact h
theorem zsB:PCall P 136 [(kN k54).c,(oN 4).c] (oN 5).c:=by
 have h:=z0r (kN k54) (oN 4) (z2y (Nat.le_trans zsA (by decide))) (z0T (Nat.le_trans zry (by decide)))
 rw[z2M,z2w,show k54*K.ofInt 4=K.ofInt 5 by kernel_rfl,←z2M,←z2M]at h
 exact h
theorem zt9:PCall P 156 [(oN 5).c,(oN 1).c] (oN 5).c:=by
 have h:=z3s (oN 5) (oN 1) (z0T (Nat.le_trans zs1 (by decide))) (z0T (Nat.le_trans zrE (by decide)))
 rw[z2M,z2M,zaQ _ _ (by rw[show K.sgn (K.ofInt 1)=1 by kernel_rfl];decide),show K.div (K.ofInt 5) (K.ofInt 1)=K.ofInt 5 by kernel_rfl]at h
 rw[z2M,z2M];exact h
theorem zsv:PCall P 136 [(oN 4).c,(kN (Z8 0)).c] (oN 4).c:=by
 have h:=z0r (oN 4) (kN (Z8 0)) (z0T (Nat.le_trans zry (by decide))) (z2y (Nat.le_trans zmZ (by decide)))
 rw[z2M,z2w,show K.ofInt 4*Z8 0=K.ofInt 4 by kernel_rfl,←z2M]at h
 exact h
theorem zsq:PCall P 136 [(oN 4).c,(kN (Y0 0)).c] (oN 0).c:=by
 have h:=z0r (oN 4) (kN (Y0 0)) (z0T (Nat.le_trans zry (by decide))) (z2y (Nat.le_trans zns (by decide)))
 rw[z2M,z2w,show K.ofInt 4*Y0 0=K.ofInt 0 by kernel_rfl,←z2M,←z2M]at h
 exact h
theorem zcE:z0Y (J9 (oN 1) (kN (Z8 0))) (J9 (oN 0) (kN (Y0 0)))=oN 1:=by
 rw[z2M,z2M,z2w,z2w,zhP,show K.ofInt 1*Z8 0+K.ofInt 0*Y0 0=K.ofInt 1 by kernel_rfl]
theorem zhI:z2Q (J9 (oN 1) (kN (Y0 0))) (J9 (oN 0) (kN (Z8 0)))=oN 0:=by
 rw[z2M,z2M,z2w,z2w,zhW,show K.ofInt 1*Y0 0-K.ofInt 0*Z8 0=K.ofInt 0 by kernel_rfl]
theorem zpe(z:Int):z0a (oN z)=K.sgn (K.ofInt z):=by rw[z2M,z5e]
theorem zsG:PCall P 158 [(oN 1).c,(oN 0).c] (.tup [j4 0,(oN 1).c,.lit (.bool true)]):=by
 have r1:=z0T (n:=10) zrE
 have r0:=z0T (n:=10) zrV
 have c:=z2y (n:=10) zmZ
 have s:=z2y (n:=10) zns
 have big: ∀{x:RN} {n:Nat},x.raw n=true→n≤1000000→x.raw 1000000=true:=fun h hn=>RN.raw_mono h hn
 have h:=zjs (oN 1) (oN 0) (by rw[zhI,zpe];kernel_rfl) (by rw[zcE,zpe];kernel_rfl) (big r1 (by decide)) (big s (by decide)) (big r0 (by decide)) (big c (by decide)) (big (z0k r1 s) (by decide)) (big (z0k r0 c) (by decide))
  (big r1 (by decide)) (big c (by decide)) (big r0 (by decide)) (big s (by decide)) (big (z0k r1 c) (by decide)) (big (z0k r0 s) (by decide)) (by rw[zhI];exact big r0 (by decide)) (by rw[zcE];exact big r1 (by decide))
 rw[zcE]at h
 exact h
noncomputable def aP:PN:=⟨⟨oN 4,oN 0,oN 3⟩,oN 5⟩
noncomputable def cP:PN:=⟨⟨oN 1,oN 0,kN k34⟩,kN k54⟩
end Go.Fw
open Go IntKind
namespace Go.Fw
set_option maxRecDepth 100000
theorem zmC:PCall P 159 [(kN k34).c] (.tup [.lit (.int .i64 3),.lit (.int .i64 4),.lit (.bool true)]):=
 j3 (.c (bq 0 4) (.r 7 (ztx) (.r 15 (zts) (.r 29 (zrO) .nil)))) (by kernel_rfl)
theorem zjz(h1:((oN (5:Int)).ok)=true)(s5_0:RN.raw 1000000 (oN (5:Int))=true)(s16_0:(-9223372036854775808:Int)≤4∧(4:Int)≤9223372036854775807)(s31_0:(-9223372036854775808:Int)≤3∧(3:Int)≤9223372036854775807):PCall P 75 [.agg [j4 4,j4 3,j4 0],(oN (5:Int)).c] (.tup [plR (oN (4:Int)) (oN (0:Int)) (oN (3:Int)) (oN (5:Int)),.lit (.int .i64 0)]):=
 j3 (.r 5 ((z1c (oN (5:Int)) s5_0).eqB h1) (.r 10 (znS) (.r 16 (z25 ((4:Int)) s16_0) (.c (lq 10 10) (.r 22 (zbs ((0:Int))) (.r 23 (zsv) (.r 27 (zbz ((0:Int))) (.r 28 (zsq) (.r 31 (z25 ((3:Int)) s31_0) (.c (lq 30 30) (.c (lq 40 40) .nil))))))))))) (by kernel_rfl)
end Go.Fw
open Go
namespace Go.Fw
set_option maxRecDepth 100000
theorem zsc(a b c:Int):(oV a b c).x=oN a:=by rw[zdP,z9R];rfl
theorem zt4(a b c:Int):(oV a b c).y=oN b:=by rw[zdP,z9R];rfl
theorem ztm(a b c:Int):(oV a b c).z=oN c:=by rw[zdP,z9R];rfl
theorem zqX{x y:K}(h:kN x=kN y):x=y:=by
 have:=z0o x
 rw[h,z0o]at this
 injection this with e
 exact e.symm
theorem zb6(x:K):(kN x).ok=true:=by rw[z1b];exact RN.ofK_ok x
theorem z9l(z:Int):(oN z).ok=true:=by rw[z2M];exact zb6 _
theorem zfK(x y:K):rnB (kN x) (kN y)=true↔x=y:=by rw[z3G];exact⟨zqX,fun h=>by rw[h]⟩
theorem z7k:rnB (oN 1) (oN 0)=false:=by
 cases h:rnB (oN 1) (oN 0)
 · rfl
 · rw[z2M,z2M,zfK]at h
   have:(K.ofInt 1).c0=(K.ofInt 0).c0:=by rw[h]
   exact absurd this (by decide)
theorem zdD:rnB (oN 4) (oN 0)=false:=by
 cases h:rnB (oN 4) (oN 0)
 · rfl
 · rw[z2M,z2M,zfK]at h
   have:(K.ofInt 4).c0=(K.ofInt 0).c0:=by rw[h]
   exact absurd this (by decide)
theorem zsw:aP.ok=true:=by
 unfold PN.ok zV aP
 rw[zsc]
 unfold VN.ok ok3
 rw[z9l,z9l,z9l,z9l,zdD];rfl
theorem zs0:cP.ok=true:=by
 unfold PN.ok zV cP
 rw[zsc]
 unfold VN.ok ok3
 rw[z9l,z9l,zb6,zb6,z7k];rfl
theorem zoK:aP.raw 10=true:=PN.raw_iff.2 ⟨z0q.2 ⟨z0T zry,z0T zrV,z0T ztk⟩,z0T zs1⟩
theorem znt:cP.raw 1000=true:=PN.raw_iff.2 ⟨z0q.2 ⟨z0T (Nat.le_trans zrE (by decide)),z0T (Nat.le_trans zrV (by decide)),z2y zqn⟩,z2y zsA⟩
theorem PN.raw_mono{p:PN}{n m:Nat}(h:p.raw n=true)(hm:n≤m):p.raw m=true:=by
 obtain⟨a,b⟩:=PN.raw_iff.1 h
 exact PN.raw_iff.2 ⟨VN.raw_mono a hm,RN.raw_mono b hm⟩
theorem zrW:PCall P 79 [cP.c] (.lit (.bool true)):=(z2X cP (PN.raw_mono znt (by decide))).eqB zs0
theorem zrS:rnB (oN 1) (oN 1)=true:=z3G.2 rfl
end Go.Fw
open Go IntKind
namespace Go.Fw
set_option maxRecDepth 100000
theorem zkS(_g1:rnB (oN (1:Int)) (oN (0:Int))=false)(h1:(rnB cP.n.x (oN (0:Int)))=false)(s11_0:RN.raw 1000000 cP.n.z=true)(s16_0:(-9223372036854775808:Int)≤0∧(0:Int)≤9223372036854775807)(s67_0:(-9223372036854775808:Int)≤4∧(4:Int)≤9223372036854775807):PCall P 77 [cP.c] (.tup [.agg [.lit (.int .i64 4),.lit (.int .i64 3),.lit (.int .i64 0)],RN.c (oN (5:Int)),.lit (.int .i64 0)]):=
 j3 (.r 5 (zrW) (.r 11 (z0n (cP.n.z) s11_0) (.r 16 (z25 ((0:Int)) s16_0) (.b 18 h1 (.r 32 (zsG) (.c (lq 10 10) (.r 48 (zsF) (.r 49 (zmC) (.r 67 (z25 ((4:Int)) s67_0) (.r 68 (zsB) (.r 70 (zt9) (.c (lq 3 3) (.c (lq 10 10) .nil))))))))))))) (by kernel_rfl)
end Go.Fw
namespace Go.Fw
section
variable{P:Program}{w0:Start}{ops:List Oper}{base:Nat}
theorem zdX {Q : Exit → Act → World → Prop} (hlo : ¬ LetsOut Q) {ops : Array Oper} (hnd : ops.toList.all (fun o => match o.op with | .defer _ => false | _ => true) = true) {l m i : Nat} {K K' : Act → World → Prop} {a : Act} {w : World}
    (hK: ∀a w,K a w→K' a w) (h:wpOp P ops Q i K a w):wpOpIn (Fence.wide.inRound l) m P ops Q i K' a w:=by
 unfold wpOp at h
 unfold wpOpIn
 cases ho:ops[i]? with
 |none=>rw[ho]at h;exact hK _ _ h
 |some o=>
  rw[ho]at h
  dsimp only at h ⊢
  split
  · rename_i hw
    rw[if_pos hw]at h
    have h:=h.resolve_right (fun k=>hlo k.2)
    have hd: ∀c,o.op≠ .defer c:=by
     intro c hc
     have:=List.all_eq_true.1 hnd o (Array.mem_toList_iff.2 (Array.mem_of_getElem? ho))
     rw[hc]at this;cases this
    refine⟨fun _ _=>trivial,?_⟩
    rw[Oper.semAt_eq _ _ _ hd]
    unfold Oper.wp at h
    generalize (execOp a.eval o).run P w=r at*
    have nd:(Fence.wide.inRound l).depth.isSome=true→1≤m:=fun h=>by cases h
    cases r with
    |ok x w'=>
     cases x with
     |value v=>exact hK _ _ h
     |skip=>exact hK _ _ h
     |defer d=>exact hK _ _ h
     |enter f args=>
      refine⟨nd,CallsIn.inRound l (callsIn_wide.2 (Calls.mono h ?_))⟩
      intro e w2 he
      cases e with
      |returned v=>exact hK _ _ he
      |panicked c=>exact he
      |outgrown=>exact he
     |row row args=>exact⟨nd,fun c cs _=>let⟨v,w2,r,st⟩:=h c cs;⟨v,w2,hK _ _ r,stepsIn_wide.2 st⟩⟩
     |_=>exact h.elim
    |halt x w'=>cases x<;>first|exact h|exact h.elim
  · rename_i hw
    rw[if_neg hw]at h
    exact⟨fun _ _=>trivial,hK _ _ h⟩
theorem zab {Q : Exit → Act → World → Prop} (hlo : ¬ LetsOut Q) {ops : Array Oper} (hnd : ops.toList.all (fun o => match o.op with | .defer _ => false | _ => true) = true) {l m : Nat} :
    ∀(is:List Nat) (a:Act) (w:World),wpOps P ops Q is a w→wpOpsIn (Fence.wide.inRound l) m P ops Q is a w
 | [],_,_,h=>h
 |i::is,a,w,h=>by
  rw[wpOpsIn_cons]
  rw[wpOps_cons]at h
  exact zdX hlo hnd (fun a w=>zab hlo hnd is a w) h
theorem zaX {Q : Exit → Act → World → Prop} (hlo : ¬ LetsOut Q) {ops : Array Oper} (hnd : ops.toList.all (fun o => match o.op with | .defer _ => false | _ => true) = true) {l m : Nat} {md : Region.Mode} :
    ∀(fuel:Nat) (li:Array Bool) (a:Act) (w:World),wpAny P md ops Q fuel li a w→wpAnyIn (Fence.wide.inRound l) m P md ops Q fuel li a w
 |0,_,_,_,h=>h
 |fuel+1,_,_,_,h=>⟨h.1,fun i hi=>zdX hlo hnd (fun a w=>zaX hlo hnd fuel _ a w) (h.2 i hi)⟩
theorem zhq(w0:Start)(s':St)(I:Imm)(p:Pl): ¬LetsOut (z1y w0 s' I p):=fun⟨_,_,h⟩=>by
 cases h.1
theorem z7p {ra : Array Oper} {id l0 m : Nat} {draw ask : Bool} {n n' : Nat} {ors ors' : Ors} {s s' : St} {ob : List Prop} {es : List (Nat × Option Eff)} {a : Act} {w : World} {I : Imm} {p : Pl}
    (h:zc0 P ra.toList s.hp.length ask (List.range ra.size) n ors {s with hp:=s.hp++List.replicate (W9 ra.toList ra.size) none} [] []= .ok n' ors' s' ob es)
    (hd:draw=true→(z3Z s.hp.length ra.toList es&&z0v 0 ra.toList&&P.follows .mixedOrders)=true) (hnd:ra.toList.all (fun o=>match o.op with| .defer _=>false|_=>true)=true) (hob: ∀q∈ob,q) (R:SRel w0 s I p a w) (hB:z2x s p):
    (Code.region id ra draw).wpIn (Fence.wide.inRound l0) m P (z1y w0 s' I p) a w:=by
 obtain⟨A,E,he,hc,_,hobs⟩:=z4P _ _ _ _ _ _ _ _ _ _ _ h List.nodup_range
 simp only[List.reverse_nil,List.nil_append]at he
 have R1:SRel w0 {s with hp:=s.hp++List.replicate (W9 ra.toList ra.size) none} I p a w:=⟨R.tm,R.defers,R.hp.more _⟩
 have hall:W9 ra.toList ra.size=W9 ra.toList ra.toList.length:=by simp
 have hsl:z4D ra.toList s.hp.length (List.range ra.size) (s.hp++List.replicate (W9 ra.toList ra.size) none) p:=by
  intro i hi o ho ha
  have hlt:i<ra.toList.length:=(List.getElem?_eq_some_iff.1 ho).1
  have h1:=z15 ho ha
  have h2:=z11 (ops:=ra.toList) (show i+1≤ra.toList.length from hlt)
  refine⟨?_,hB _ (by simp)⟩
  rw[List.getElem?_append_right (by omega),List.getElem?_replicate,if_pos (by rw[hall];omega)]
 have hQ : ∀ a' w' I' p', I.le I' → SRel w0 s' I' p' a' w' → z5A ra.toList s.hp.length p p' →
     z1y w0 s' I p .normal a' w':=by
  intro a' w' I' p' k1 k2 k3
  have hpp:p.le p':=by
   intro k x hx
   rw[k3 k]
   · exact hx
   · intro j o hj ha e
     have:p k=none:=hB k (by omega)
     rw[this]at hx;cases hx
  refine⟨rfl,I',p',k1,k2,fun k hk=>?_,hpp⟩
  have hlen:=z2N _ _ _ hc
  simp only[List.length_append,List.length_replicate]at hlen
  rw[k3 k]
  · exact hB k (by omega)
  · intro j o hj ha e
    have hlt:j<ra.toList.length:=(List.getElem?_eq_some_iff.1 hj).1
    have h1:=z15 hj ha
    have h2:=z11 (ops:=ra.toList) (show j+1≤ra.toList.length from hlt)
    rw[hall]at hlen
    omega
 have hobs': ∀i∈List.range ra.size,∀e,E i=some e→ ∀q∈e.ob,q:=fun i hi e he q hq=>hob q (hobs i hi e he q hq)
 cases draw with
 |false=>
  refine wpIn_region (zab (zhq _ _ _ _) hnd _ _ _ ?_)
  have:=z3v (P:=P) (w0:=w0) (Q:=z1y w0 s' I p) (List.range ra.size) _ a w I p hc List.nodup_range hobs' R1 hsl hQ
  simpa using this
 |true=>
  have hd':=hd rfl
  simp only[Bool.and_eq_true]at hd'
  obtain⟨⟨hd1,hd2⟩,hd3⟩:=hd'
  refine wpIn_region_any hd3 (zaX (zhq _ _ _ _) hnd _ _ _ _ ?_)
  rw[he]at hd1
  have hpw:=z3n (z3t _ hd1)
  have hrem:rem ra.toList (Array.replicate ra.size false)=List.range ra.size:=by
   unfold rem
   simp only[Array.length_toList]
   apply List.filter_eq_self.2
   intro i hi
   simp at hi
   simp[hi]
  have R2:SRel w0 {s with hp:=s.hp++List.replicate (W9 ra.toList ra.size) none} I p a {w with drawn:=w.drawn+1}:=⟨R1.tm,R1.defers,R1.hp.drew⟩
  have:=z67 (P:=P) (w0:=w0) (s':=s') (Q:=z1y w0 s' I p) hd2 (fun i j hij hj=>hpw i j hij (by simpa using hj)) ra.size (Array.replicate ra.size false) _ a {w with drawn:=w.drawn+1} I p
   (by rw[hrem];simp) (by rw[hrem];exact hc) (by rw[hrem];exact hobs') R2 (by rw[hrem];exact hsl) hQ
  simpa using this
end
end Go.Fw
open Go
namespace Go.Fw
set_option maxRecDepth 100000
def z75(id:Nat):Code→Option (Array Oper)
 | .region i ops _=>if i=id then some ops else none
 | .seq a b=>match z75 id a with|some x=>some x|none=>z75 id b
 | .block _ c=>z75 id c
 | .loop c=>z75 id c
 | .cond _ a b=>match z75 id a with|some x=>some x|none=>z75 id b
 | .rangeFunc _ _ a b=>match z75 id a with|some x=>some x|none=>z75 id b
 |_=>none
def zi1(P:Program)(f:FuncId)(id:Nat):Array Oper:=match P.funcs[f]? with
 |some fn=>match fn.body with|some c=>(z75 id c).getD #[]|none=> #[]
 |none=> #[]
def zmk(P:Program)(ra:Array Oper)(ors:Ors)(s:St):Option (St×List Prop×Bool):=
 match zc0 P ra.toList s.hp.length false (List.range ra.size) 0 ors {s with hp:=s.hp++List.replicate (W9 ra.toList ra.size) none} [] []with
 | .ok _ _ s' ob es=>some (s',ob,z3Z s.hp.length ra.toList es&&z0v 0 ra.toList&&P.follows .mixedOrders)
 | .bad .. =>none
def zrz(p:PN)(x:RN):St:=⟨[.unk,.ptr 0 0,.ptr 1 0,.ptr 2 0,.ptr 3 0]++List.replicate 26 .unk,[some (own (p.n.x.l++(p.n.y.l++(p.n.z.l++p.d.l)))),some (own (RN.zero.l++(RN.zero.l++(RN.zero.l++RN.zero.l)))),some (own [j4 0]),some (own x.l)]⟩
noncomputable def zkN(p:PN)(x:RN):St×List Prop×Bool:=(zmk P (zi1 P 91 6) [(0,.r (oN 1).c),(2,.r (z70 x).c),(3,.r (z92 x).c)] (zrz p x)).getD (⟨[],[]⟩,[],false)
noncomputable def zla(p:PN)(x:RN):St×List Prop×Bool:=(zmk P (zi1 P 91 7) [(3,.r (z3W p.n (z92 x)).c),(7,.r (J9 p.d (z92 x)).c)] (zkN p x).1).getD (⟨[],[]⟩,[],false)
end Go.Fw
open Go Go.RowKit
namespace Go.Fw
set_option maxRecDepth 100000
theorem z6K {P : Program} {w0 : Start} {ra : Array Oper} {id l0 m : Nat} {ors : Ors} {s s' : St} {ob : List Prop} {a : Act} {w : World} {I : Imm} {p : Pl}
    (h:zmk P ra ors s=some (s',ob,true)) (hnd:ra.toList.all (fun o=>match o.op with| .defer _=>false|_=>true)=true) (hob: ∀q∈ob,q) (R:SRel w0 s I p a w) (hB:z2x s p):
    (Code.region id ra true).wpIn (Fence.wide.inRound l0) m P (z1y w0 s' I p) a w:=by
 unfold zmk at h
 split at h
 · rename_i h1
   injection h with h
   injection h with e1 h
   injection h with e2 e3
   subst e1 e2
   exact z7p h1 (fun _=>e3) hnd hob R hB
 · cases h
theorem zck{o:Option (St×List Prop×Bool)}{d v:St×List Prop×Bool}(hv:v=o.getD d)(h:o.isSome=true)(h2:v.2.2=true):o=some (v.1,v.2.1,true):=by
 cases o with
 |none=>cases h
 |some x=>
  rw[hv,show(some x).getD d=x from rfl]at h2 ⊢
  rw[←h2]
theorem zmc(p:PN)(x:RN):zmk P (zi1 P 91 6) [(0,.r (oN 1).c),(2,.r (z70 x).c),(3,.r (z92 x).c)] (zrz p x)=some ((zkN p x).1,(zkN p x).2.1,true):=zck (d:=(⟨[],[]⟩,[],false)) (v:=zkN p x) (by kernel_rfl) (by kernel_rfl) (by kernel_rfl)
theorem ziu(p:PN)(x:RN):zmk P (zi1 P 91 7) [(3,.r (z3W p.n (z92 x)).c),(7,.r (J9 p.d (z92 x)).c)] (zkN p x).1=some ((zla p x).1,(zla p x).2.1,true):=zck (d:=(⟨[],[]⟩,[],false)) (v:=zla p x) (by kernel_rfl) (by kernel_rfl) (by kernel_rfl)
theorem zlY(p:PN)(x:RN):(zkN p x).2.1=[PCall P 144 [j4 1] (oN 1).c,PCall P 157 [x.c] (z70 x).c,PCall P 156 [(oN 1).c,(z70 x).c] (z92 x).c,10≤10]:=by kernel_rfl
theorem zkQ(p:PN)(x:RN):(zla p x).2.1=[PCall P 142 [p.n.c,(z92 x).c] (z3W p.n (z92 x)).c,PCall P 136 [p.d.c,(z92 x).c] (J9 p.d (z92 x)).c,40≤40,1≤1]:=by kernel_rfl
theorem zmr(p:PN)(x:RN):(zla p x).1.hp[2]?=some (some (own [j4 0])):=by kernel_rfl
theorem znA(p:PN)(x:RN):(zla p x).1.hp[1]?=some (some (own ((z4u p x).n.x.l++((z4u p x).n.y.l++((z4u p x).n.z.l++(z4u p x).d.l))))):=by kernel_rfl
def PN.a(p:PN):Array Value:=p.n.x.a++(p.n.y.a++(p.n.z.a++p.d.a))
theorem l_map(x:RN):x.l=x.a.toList.map .lit:=rfl
theorem zah(p:PN):p.n.x.l++(p.n.y.l++(p.n.z.l++p.d.l))=p.a.toList.map .lit:=by
 unfold PN.a
 rw[Array.toList_append,Array.toList_append,Array.toList_append,List.map_append,List.map_append,List.map_append,Go.Fw.l_map,Go.Fw.l_map,Go.Fw.l_map,Go.Fw.l_map]
theorem zkU{I:Imm}{q:Pl}(l:List Value):MV.repL I q (own (l.map .lit)) l:=by
 unfold own
 rw[MV.repL_map_cv]
 exact z36 I l
end Go.Fw
