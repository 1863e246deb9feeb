/- A part of the proof that the law returns true for every input: an executor for the model's code, and what functions of the program compute. -/
import Derived.Test.YtcafjpldfnegiaaGreatDoorB10
import Derived.Test.YtcafjpldfnegiaaGreatDoorB11
import Derived.Test.YtcafjpldfnegiaaGreatDoorB15
import Derived.Test.YtcafjpldfnegiaaGreatDoorB28
import Derived.Test.YtcafjpldfnegiaaGreatDoorB39
import Derived.Test.YtcafjpldfnegiaaGreatDoorB40
import Derived.Test.YtcafjpldfnegiaaGreatDoorB42
import Derived.KernelRfl
import Derived.OrdersIn
import Derived.RangeFuncCalls
open Go
namespace Go.Fw
set_option maxRecDepth 100000
noncomputable def kN(x:K):RN:=ofO (toO (ofO (some x)))
theorem z2j(x:K):kN x= .ofK x:=by unfold kN;rw[z7e];rfl
theorem zod(i:Int):PCall P 33 [j6 i] (kN (z3v i)).c:=by rw[z2j];exact z84 i
theorem zoM(i:Int):PCall P 35 [j6 i] (kN (z5f i)).c:=by rw[z2j];exact zbF i
theorem z17(x:K):toO (kN x)=some x:=by rw[z2j];exact z7d x
theorem z58(x y:K):z2D (kN x) (kN y)=kN (x*y):=by unfold z2D;rw[z17,z17,z2j];rfl
theorem zoD(x y:K):z3c (kN x) (kN y)=kN (x+y):=by unfold z3c;rw[z17,z17,z2j];rfl
theorem znb(x y:K):z6x (kN x) (kN y)=kN (x-y):=by unfold z6x;rw[z17,z17,z2j];rfl
theorem zgA(x:K):z5y (kN x)=kN (-x):=by unfold z5y;rw[z17,z2j];rfl
theorem zmo(x:K):z1y (kN x)=K.sgn x:=by unfold z1y;rw[z17]
theorem z35(n:Int):oN n=kN (K.ofInt n):=by rw[z9x,z2j]
theorem zdM(x y:K)(h:K.sgn y≠0):(z0G (kN x) (kN y)).1=kN (K.div x y):=by
 unfold z0G
 rw[z17,z17]
 dsimp only
 rw[if_neg h,z2j]
end Go.Fw
open Go
namespace Go.Fw
set_option maxRecDepth 100000
theorem zgT(x y:RN)(hx:x.raw 1000000=true)(hy:y.raw 1000000=true):PCall P 135 [x.c,y.c] (z6x x y).c:=by
 have h:=zor x y hy hx (z6b hy)
 have e:z3c x (z5y y)=z6x x y:=by unfold z3c z6x;rw[zaA,zmI]
 rw[e]at h
 exact h
def k34:K:=⟨3,0,0,0,4,by decide,by decide⟩
def k54:K:=⟨5,0,0,0,4,by decide,by decide⟩
theorem zr1:PCall P 217 [.agg [.lit (.bool (kN k34).b0),.lit (.string (kN k34).s0)]] (.tup [j6 3,.lit (.bool true)]):=by
 rw[z2j,show(RN.ofK k34).s0=⟨#[3]⟩ by kernel_rfl]
 exact zi5
theorem zqV:PCall P 217 [.agg [.lit (.bool (kN k34).b4),.lit (.string (kN k34).s4)]] (.tup [j6 4,.lit (.bool true)]):=by
 rw[z2j,show(RN.ofK k34).s4=⟨#[4]⟩ by kernel_rfl]
 exact zj1
end Go.Fw
open Go IntKind
namespace Go.Fw
set_option maxRecDepth 100000
theorem zjX(x y:RN)(g1:(z1y (z6x (z2D x (kN (z5f (0:Int)))) (z2D y (kN (z3v (0:Int)))))==0)=true)(g2:decide (z1y (z3c (z2D x (kN (z3v (0:Int)))) (z2D y (kN (z5f (0:Int)))))>0)=true)(s21_0:RN.raw 1000000 x=true)(s21_1:RN.raw 1000000 (kN (z5f (0:Int)))=true)(s24_0:RN.raw 1000000 y=true)(s24_1:RN.raw 1000000 (kN (z3v (0:Int)))=true)(s25_0:RN.raw 1000000 (z2D x (kN (z5f (0:Int))))=true)(s25_1:RN.raw 1000000 (z2D y (kN (z3v (0:Int))))=true)(s30_0:RN.raw 1000000 x=true)(s30_1:RN.raw 1000000 (kN (z3v (0:Int)))=true)(s33_0:RN.raw 1000000 y=true)(s33_1:RN.raw 1000000 (kN (z5f (0:Int)))=true)(s34_0:RN.raw 1000000 (z2D x (kN (z3v (0:Int))))=true)(s34_1:RN.raw 1000000 (z2D y (kN (z5f (0:Int))))=true)(s38_0:RN.raw 1000000 (z6x (z2D x (kN (z5f (0:Int)))) (z2D y (kN (z3v (0:Int)))))=true)(s42_0:RN.raw 1000000 (z3c (z2D x (kN (z3v (0:Int)))) (z2D y (kN (z5f (0:Int)))))=true):PCall P 158 [x.c,y.c] (.tup [.lit (.int .i64 0),RN.c (z3c (z2D x (kN (z3v (0:Int)))) (z2D y (kN (z5f (0:Int))))),.lit (.bool true)]):=
 j3 (.r 12 (zod ((0:Int))) (.r 14 (zoM ((0:Int))) (.c (lq 10 10) (.c (lq 10 10) (.r 21 (z56 (x) (kN (z5f (0:Int))) s21_0 s21_1) (.r 24 (z56 (y) (kN (z3v (0:Int))) s24_0 s24_1) (.r 25 (zgT (z2D x (kN (z5f (0:Int)))) (z2D y (kN (z3v (0:Int)))) s25_0 s25_1) (.c (lq 10 10) (.r 30 (z56 (x) (kN (z3v (0:Int))) s30_0 s30_1) (.r 33 (z56 (y) (kN (z5f (0:Int))) s33_0 s33_1) (.r 34 (zab (z2D x (kN (z3v (0:Int)))) (z2D y (kN (z5f (0:Int)))) s34_0 s34_1) (.c (lq 10 10) (.r 38 (z2i (z6x (z2D x (kN (z5f (0:Int)))) (z2D y (kN (z3v (0:Int))))) s38_0) (.b 40 g1 (.r 42 (z2i (z3c (z2D x (kN (z3v (0:Int)))) (z2D y (kN (z5f (0:Int))))) s42_0) (.b 45 g2 (.c (lq 10 10) .nil))))))))))))))))) (by kernel_rfl)
theorem zhk(x:K)(h1:((bytesOf x.c1.natAbs).toList==[])=true)(h2:((bytesOf x.c2.natAbs).toList==[])=true)(s3_0:Smk x):PCall P 218 [Z0 x] (.lit (.bool ((bytesOf x.c3.natAbs).toList==[]))):=
 j3 (.r 3 (z0d (x) s3_0) (.c (bq 1 4) (.b 11 h1 (.c (bq 2 4) (.b 18 h2 (.c (bq 3 4) .nil)))))) (by kernel_rfl)
theorem zoR:PCall P 81 [.agg [j6 4,j6 3,j6 0]] (.lit (.bool true)):=
 j3 (.r 29 (zeq) .nil) (by kernel_rfl)
end Go.Fw
open Go
namespace Go.Fw
set_option maxRecDepth 100000
theorem zgf:FCall P 195 [Y5 (bytesOf 3)] (.sl 0 0 1 1) [j6 3]:=z1M (bytesOf 3) (by decide)
theorem zek:FCall P 195 [Y5 (bytesOf 5)] (.sl 0 0 1 1) [j6 5]:=z1M (bytesOf 5) (by decide)
theorem p3S:PCall P 183 [.agg [.lit (.bool false),Y5 (bytesOf 3)]] (j6 1):=Z3 3
theorem p5S:PCall P 183 [.agg [.lit (.bool false),Y5 (bytesOf 5)]] (j6 1):=Z3 5
theorem p3G:PCall P 184 [.agg [.lit (.bool false),Y5 (bytesOf 3)],.agg [.lit (.bool false),Y5 (bytesOf 4)]] (.agg [.lit (.bool false),Y5 (bytesOf 1)]):=zdR 3 4 (by decide) (by decide)
theorem p5G:PCall P 184 [.agg [.lit (.bool false),Y5 (bytesOf 5)],.agg [.lit (.bool false),Y5 (bytesOf 4)]] (.agg [.lit (.bool false),Y5 (bytesOf 1)]):=zdR 5 4 (by decide) (by decide)
theorem p3A:PCall P 186 [.agg [.lit (.bool false),Y5 (bytesOf 3)]] (.agg [.lit (.bool false),Y5 (bytesOf 3)]):=z2C 3
theorem p5A:PCall P 186 [.agg [.lit (.bool false),Y5 (bytesOf 5)]] (.agg [.lit (.bool false),Y5 (bytesOf 5)]):=z2C 5
theorem p3O:PCall P 185 [.agg [.lit (.bool false),Y5 (bytesOf 3)],.agg [.lit (.bool false),Y5 (bytesOf 1)]] (.agg [.lit (.bool false),Y5 (bytesOf 3)]):=z9k 3 1 (by decide) (by decide) (by decide) (by decide)
theorem p5O:PCall P 185 [.agg [.lit (.bool false),Y5 (bytesOf 5)],.agg [.lit (.bool false),Y5 (bytesOf 1)]] (.agg [.lit (.bool false),Y5 (bytesOf 5)]):=z9k 5 1 (by decide) (by decide) (by decide) (by decide)
end Go.Fw
open Go IntKind
namespace Go.Fw
set_option maxRecDepth 100000
theorem RPr3_p1:PCall P 187 [.agg [.lit (.bool false),Y5 (bytesOf 3)]] (.lit (.string (Utf8.encode (51:Int)++{data:= #[]}))):=
 j3 (.c (J4 (false) (bytesOf 3)) (.c (zgf) (.c (bq 0 1) (.c (nz 10) (.c (bq 0 1) (.c (lq 1 1) (.c (nz 10) (.c (zcT) (.c (show BlksCv [some [.cv (.lit (.int .i64 0))],some [.cv (.lit (.int .i64 0))]]from(by simp[BlksCv,zcC])) (.c (show(1:Int)≤9223372036854775807 from by decide) (.o 3 (.r (.lit (.bool true))) (.o 14 (.f (.sl 0 0 1 1) [j6 3]) (.o 56 (.m [2] (.sl 0 0 0 1) [some [.cv (j6 0)]]) .nil))))))))))))) (by kernel_rfl)
theorem RPr5_p1:PCall P 187 [.agg [.lit (.bool false),Y5 (bytesOf 5)]] (.lit (.string (Utf8.encode (53:Int)++{data:= #[]}))):=
 j3 (.c (J4 (false) (bytesOf 5)) (.c (zek) (.c (bq 0 1) (.c (nz 10) (.c (bq 0 1) (.c (lq 1 1) (.c (nz 10) (.c (zcT) (.c (show BlksCv [some [.cv (.lit (.int .i64 0))],some [.cv (.lit (.int .i64 0))]]from(by simp[BlksCv,zcC])) (.c (show(1:Int)≤9223372036854775807 from by decide) (.o 3 (.r (.lit (.bool true))) (.o 14 (.f (.sl 0 0 1 1) [j6 5]) (.o 56 (.m [2] (.sl 0 0 0 1) [some [.cv (j6 0)]]) .nil))))))))))))) (by kernel_rfl)
theorem zgP:PCall P 188 [j6 0] (.lit (.string {data:= #[]})):=
 j3 (.c (bq 0 4) .nil) (by kernel_rfl)
end Go.Fw
open Go
namespace Go.Fw
set_option maxRecDepth 100000
theorem p3P:PCall P 187 [.agg [.lit (.bool false),Y5 (bytesOf 3)]] (Y5 ⟨#[51]⟩):=RPr3_p1.eq (by kernel_rfl)
theorem p5P:PCall P 187 [.agg [.lit (.bool false),Y5 (bytesOf 5)]] (Y5 ⟨#[53]⟩):=RPr5_p1.eq (by kernel_rfl)
theorem zlR:k34.sz≤1000:=of_decide_eq_true (by kernel_rfl)
theorem zq1:k54.sz≤1000:=of_decide_eq_true (by kernel_rfl)
theorem zqL:PCall P 124 [n5C 3 0 0 0 4] (.lit (.bool true)):=z0i k34 (by have:=zlR;omega)
theorem zqH:PCall P 124 [n5C 5 0 0 0 4] (.lit (.bool true)):=z0i k54 (by have:=zq1;omega)
end Go.Fw
open Go
namespace Go.Fw
set_option maxRecDepth 100000
theorem z3h{x:K}{n:Nat}(h:x.sz≤n):(kN x).raw n=true:=by rw[z2j];exact RN.ofK_raw x h
theorem z1t{z:Int}{n:Nat}(h:(K.ofInt z).sz≤n):(oN z).raw n=true:=by rw[z35];exact z3h h
theorem zmD:(z3v 0).sz≤10:=of_decide_eq_true (by kernel_rfl)
theorem zmb:(z5f 0).sz≤10:=of_decide_eq_true (by kernel_rfl)
theorem zq5:(K.ofInt 0).sz≤10:=of_decide_eq_true (by kernel_rfl)
theorem zpb:(K.ofInt 1).sz≤10:=of_decide_eq_true (by kernel_rfl)
theorem zqS:(K.ofInt 3).sz≤10:=of_decide_eq_true (by kernel_rfl)
theorem zpn:(K.ofInt 4).sz≤10:=of_decide_eq_true (by kernel_rfl)
theorem zq6:(K.ofInt 5).sz≤10:=of_decide_eq_true (by kernel_rfl)
theorem zpq:PCall P 218 [(kN k34).c] (.lit (.bool true)):=by
 have h:=zhk k34 (by kernel_rfl) (by kernel_rfl) (by have:=zlR;simp only[Smk];omega)
 rw[show((bytesOf k34.c3.natAbs).toList==[])=true by kernel_rfl]at h
 rw[z2j]
 exact h
theorem zqb:PCall P 156 [(kN k34).c,(oN 1).c] (kN k34).c:=by
 have h:=zak (kN k34) (oN 1) (z3h (Nat.le_trans zlR (by decide))) (z1t (Nat.le_trans zpb (by decide)))
 rw[z35,zdM _ _ (by rw[show K.sgn (K.ofInt 1)=1 by kernel_rfl];decide),show K.div k34 (K.ofInt 1)=k34 by kernel_rfl]at h
 rw[z35];exact h
theorem zpS:PCall P 136 [(kN k54).c,(oN 4).c] (oN 5).c:=by
 have h:=z56 (kN k54) (oN 4) (z3h (Nat.le_trans zq1 (by decide))) (z1t (Nat.le_trans zpn (by decide)))
 rw[z35,z58,show k54*K.ofInt 4=K.ofInt 5 by kernel_rfl,←z35,←z35]at h
 exact h
theorem zqO:PCall P 156 [(oN 5).c,(oN 1).c] (oN 5).c:=by
 have h:=zak (oN 5) (oN 1) (z1t (Nat.le_trans zq6 (by decide))) (z1t (Nat.le_trans zpb (by decide)))
 rw[z35,z35,zdM _ _ (by rw[show K.sgn (K.ofInt 1)=1 by kernel_rfl];decide),show K.div (K.ofInt 5) (K.ofInt 1)=K.ofInt 5 by kernel_rfl]at h
 rw[z35,z35];exact h
theorem zpR:PCall P 136 [(oN 4).c,(kN (z3v 0)).c] (oN 4).c:=by
 have h:=z56 (oN 4) (kN (z3v 0)) (z1t (Nat.le_trans zpn (by decide))) (z3h (Nat.le_trans zmD (by decide)))
 rw[z35,z58,show K.ofInt 4*z3v 0=K.ofInt 4 by kernel_rfl,←z35]at h
 exact h
theorem zpB:PCall P 136 [(oN 4).c,(kN (z5f 0)).c] (oN 0).c:=by
 have h:=z56 (oN 4) (kN (z5f 0)) (z1t (Nat.le_trans zpn (by decide))) (z3h (Nat.le_trans zmb (by decide)))
 rw[z35,z58,show K.ofInt 4*z5f 0=K.ofInt 0 by kernel_rfl,←z35,←z35]at h
 exact h
theorem zdJ:z3c (z2D (oN 1) (kN (z3v 0))) (z2D (oN 0) (kN (z5f 0)))=oN 1:=by
 rw[z35,z35,z58,z58,zoD,show K.ofInt 1*z3v 0+K.ofInt 0*z5f 0=K.ofInt 1 by kernel_rfl]
theorem zgF:z6x (z2D (oN 1) (kN (z5f 0))) (z2D (oN 0) (kN (z3v 0)))=oN 0:=by
 rw[z35,z35,z58,z58,znb,show K.ofInt 1*z5f 0-K.ofInt 0*z3v 0=K.ofInt 0 by kernel_rfl]
theorem znG(z:Int):z1y (oN z)=K.sgn (K.ofInt z):=by rw[z35,zmo]
theorem zpZ:PCall P 158 [(oN 1).c,(oN 0).c] (.tup [j6 0,(oN 1).c,.lit (.bool true)]):=by
 have r1:=z1t (n:=10) zpb
 have r0:=z1t (n:=10) zq5
 have c:=z3h (n:=10) zmD
 have s:=z3h (n:=10) zmb
 have big: ∀{x:RN} {n:Nat},x.raw n=true→n≤1000000→x.raw 1000000=true:=fun h hn=>RN.raw_mono h hn
 have h:=zjX (oN 1) (oN 0) (by rw[zgF,znG];kernel_rfl) (by rw[zdJ,znG];kernel_rfl) (big r1 (by decide)) (big s (by decide)) (big r0 (by decide)) (big c (by decide)) (big (z7K r1 s) (by decide)) (big (z7K r0 c) (by decide))
  (big r1 (by decide)) (big c (by decide)) (big r0 (by decide)) (big s (by decide)) (big (z7K r1 c) (by decide)) (big (z7K r0 s) (by decide)) (by rw[zgF];exact big r0 (by decide)) (by rw[zdJ];exact big r1 (by decide))
 rw[zdJ]at h
 exact h
noncomputable def aP:PN:=⟨⟨oN 4,oN 0,oN 3⟩,oN 5⟩
noncomputable def cP:PN:=⟨⟨oN 1,oN 0,kN k34⟩,kN k54⟩
end Go.Fw
open Go IntKind
namespace Go.Fw
set_option maxRecDepth 100000
theorem zmk:PCall P 159 [(kN k34).c] (.tup [.lit (.int .i64 3),.lit (.int .i64 4),.lit (.bool true)]):=
 j3 (.c (bq 0 4) (.r 7 (zr1) (.r 15 (zqV) (.r 29 (zpq) .nil)))) (by kernel_rfl)
theorem zkk(h1:((oN (5:Int)).ok)=true)(s5_0:RN.raw 1000000 (oN (5:Int))=true)(s16_0:(-9223372036854775808:Int)≤4∧(4:Int)≤9223372036854775807)(s31_0:(-9223372036854775808:Int)≤3∧(3:Int)≤9223372036854775807):PCall P 75 [.agg [j6 4,j6 3,j6 0],(oN (5:Int)).c] (.tup [plR (oN (4:Int)) (oN (0:Int)) (oN (3:Int)) (oN (5:Int)),.lit (.int .i64 0)]):=
 j3 (.r 5 ((z1B (oN (5:Int)) s5_0).eqB h1) (.r 10 (zoR) (.r 16 (zaI ((4:Int)) s16_0) (.c (lq 10 10) (.r 22 (zod ((0:Int))) (.r 23 (zpR) (.r 27 (zoM ((0:Int))) (.r 28 (zpB) (.r 31 (zaI ((3:Int)) s31_0) (.c (lq 30 30) (.c (lq 40 40) .nil))))))))))) (by kernel_rfl)
end Go.Fw
open Go
namespace Go.Fw
set_option maxRecDepth 100000
theorem zq9(a b c:Int):(oV a b c).x=oN a:=by rw[zdY,z9x];rfl
theorem zqt(a b c:Int):(oV a b c).y=oN b:=by rw[zdY,z9x];rfl
theorem zqF(a b c:Int):(oV a b c).z=oN c:=by rw[zdY,z9x];rfl
theorem zp9{x y:K}(h:kN x=kN y):x=y:=by
 have:=z17 x
 rw[h,z17]at this
 injection this with e
 exact e.symm
theorem zjU(x:K):(kN x).ok=true:=by rw[z2j];exact RN.ofK_ok x
theorem z9g(z:Int):(oN z).ok=true:=by rw[z35];exact zjU _
theorem zmx(x y:K):rnB (kN x) (kN y)=true↔x=y:=by rw[z2m];exact⟨zp9,fun h=>by rw[h]⟩
theorem z7S:rnB (oN 1) (oN 0)=false:=by
 cases h:rnB (oN 1) (oN 0)
 · rfl
 · rw[z35,z35,zmx]at h
   have:(K.ofInt 1).c0=(K.ofInt 0).c0:=by rw[h]
   exact absurd this (by decide)
theorem zbQ:rnB (oN 4) (oN 0)=false:=by
 cases h:rnB (oN 4) (oN 0)
 · rfl
 · rw[z35,z35,zmx]at h
   have:(K.ofInt 4).c0=(K.ofInt 0).c0:=by rw[h]
   exact absurd this (by decide)
theorem zpv:aP.ok=true:=by
 unfold PN.ok zV aP
 rw[zq9]
 unfold VN.ok ok3
 rw[z9g,z9g,z9g,z9g,zbQ];rfl
theorem zpX:cP.ok=true:=by
 unfold PN.ok zV cP
 rw[zq9]
 unfold VN.ok ok3
 rw[z9g,z9g,zjU,zjU,z7S];rfl
theorem zok:aP.raw 10=true:=PN.raw_iff.2 ⟨z0A.2 ⟨z1t zpn,z1t zq5,z1t zqS⟩,z1t zq6⟩
theorem zp2:cP.raw 1000=true:=PN.raw_iff.2 ⟨z0A.2 ⟨z1t (Nat.le_trans zpb (by decide)),z1t (Nat.le_trans zq5 (by decide)),z3h zlR⟩,z3h zq1⟩
theorem PN.raw_mono{p:PN}{n m:Nat}(h:p.raw n=true)(hm:n≤m):p.raw m=true:=by
 obtain⟨a,b⟩:=PN.raw_iff.1 h
 exact PN.raw_iff.2 ⟨VN.raw_mono a hm,RN.raw_mono b hm⟩
theorem zpI:PCall P 79 [cP.c] (.lit (.bool true)):=(z1N cP (PN.raw_mono zp2 (by decide))).eqB zpX
theorem zps:rnB (oN 1) (oN 1)=true:=z2m.2 rfl
end Go.Fw
open Go IntKind
namespace Go.Fw
set_option maxRecDepth 100000
theorem ziG(_g1:rnB (oN (1:Int)) (oN (0:Int))=false)(h1:(rnB cP.n.x (oN (0:Int)))=false)(s11_0:RN.raw 1000000 cP.n.z=true)(s16_0:(-9223372036854775808:Int)≤0∧(0:Int)≤9223372036854775807)(s67_0:(-9223372036854775808:Int)≤4∧(4:Int)≤9223372036854775807):PCall P 77 [cP.c] (.tup [.agg [.lit (.int .i64 4),.lit (.int .i64 3),.lit (.int .i64 0)],RN.c (oN (5:Int)),.lit (.int .i64 0)]):=
 j3 (.r 5 (zpI) (.r 11 (z2i (cP.n.z) s11_0) (.r 16 (zaI ((0:Int)) s16_0) (.b 18 h1 (.r 32 (zpZ) (.c (lq 10 10) (.r 48 (zqb) (.r 49 (zmk) (.r 67 (zaI ((4:Int)) s67_0) (.r 68 (zpS) (.r 70 (zqO) (.c (lq 3 3) (.c (lq 10 10) .nil))))))))))))) (by kernel_rfl)
end Go.Fw
namespace Go.Fw
section
variable{P:Program}{w0:Start}{ops:List Oper}{base:Nat}
theorem zdg {Q : Exit → Act → World → Prop} (hlo : ¬ LetsOut Q) {ops : Array Oper} (hnd : ops.toList.all (fun o => match o.op with | .defer _ => false | _ => true) = true) {l m i : Nat} {K K' : Act → World → Prop} {a : Act} {w : World}
    (hK: ∀a w,K a w→K' a w) (h:wpOp P ops Q i K a w):wpOpIn (Fence.wide.inRound l) m P ops Q i K' a w:=by
 unfold wpOp at h
 unfold wpOpIn
 cases ho:ops[i]? with
 |none=>rw[ho]at h;exact hK _ _ h
 |some o=>
  rw[ho]at h
  dsimp only at h ⊢
  split
  · rename_i hw
    rw[if_pos hw]at h
    have h:=h.resolve_right (fun k=>hlo k.2)
    have hd: ∀c,o.op≠ .defer c:=by
     intro c hc
     have:=List.all_eq_true.1 hnd o (Array.mem_toList_iff.2 (Array.mem_of_getElem? ho))
     rw[hc]at this;cases this
    refine⟨fun _ _=>trivial,?_⟩
    rw[Oper.semAt_eq _ _ _ hd]
    unfold Oper.wp at h
    generalize (execOp a.eval o).run P w=r at*
    have nd:(Fence.wide.inRound l).depth.isSome=true→1≤m:=fun h=>by cases h
    cases r with
    |ok x w'=>
     cases x with
     |value v=>exact hK _ _ h
     |skip=>exact hK _ _ h
     |defer d=>exact hK _ _ h
     |enter f args=>
      refine⟨nd,CallsIn.inRound l (callsIn_wide.2 (Calls.mono h ?_))⟩
      intro e w2 he
      cases e with
      |returned v=>exact hK _ _ he
      |panicked c=>exact he
      |outgrown=>exact he
     |row row args=>exact⟨nd,fun c cs _=>let⟨v,w2,r,st⟩:=h c cs;⟨v,w2,hK _ _ r,stepsIn_wide.2 st⟩⟩
     |_=>exact h.elim
    |halt x w'=>cases x<;>first|exact h|exact h.elim
  · rename_i hw
    rw[if_neg hw]at h
    exact⟨fun _ _=>trivial,hK _ _ h⟩
theorem z9R {Q : Exit → Act → World → Prop} (hlo : ¬ LetsOut Q) {ops : Array Oper} (hnd : ops.toList.all (fun o => match o.op with | .defer _ => false | _ => true) = true) {l m : Nat} :
    ∀(is:List Nat) (a:Act) (w:World),wpOps P ops Q is a w→wpOpsIn (Fence.wide.inRound l) m P ops Q is a w
 | [],_,_,h=>h
 |i::is,a,w,h=>by
  rw[wpOpsIn_cons]
  rw[wpOps_cons]at h
  exact zdg hlo hnd (fun a w=>z9R hlo hnd is a w) h
theorem zao {Q : Exit → Act → World → Prop} (hlo : ¬ LetsOut Q) {ops : Array Oper} (hnd : ops.toList.all (fun o => match o.op with | .defer _ => false | _ => true) = true) {l m : Nat} {md : Region.Mode} :
    ∀(fuel:Nat) (li:Array Bool) (a:Act) (w:World),wpAny P md ops Q fuel li a w→wpAnyIn (Fence.wide.inRound l) m P md ops Q fuel li a w
 |0,_,_,_,h=>h
 |fuel+1,_,_,_,h=>⟨h.1,fun i hi=>zdg hlo hnd (fun a w=>zao hlo hnd fuel _ a w) (h.2 i hi)⟩
theorem zgQ(w0:Start)(s':St)(I:Imm)(p:Pl): ¬LetsOut (z1s w0 s' I p):=fun⟨_,_,h⟩=>by
 cases h.1
theorem z7B {ra : Array Oper} {id l0 m : Nat} {draw ask : Bool} {n n' : Nat} {ors ors' : Ors} {s s' : St} {ob : List Prop} {es : List (Nat × Option Eff)} {a : Act} {w : World} {I : Imm} {p : Pl}
    (h:zby P ra.toList s.hp.length ask (List.range ra.size) n ors {s with hp:=s.hp++List.replicate (Y8 ra.toList ra.size) none} [] []= .ok n' ors' s' ob es)
    (hd:draw=true→(z3Y s.hp.length ra.toList es&&z0j 0 ra.toList&&P.follows .mixedOrders)=true) (hnd:ra.toList.all (fun o=>match o.op with| .defer _=>false|_=>true)=true) (hob: ∀q∈ob,q) (R:SRel w0 s I p a w) (hB:z2s s p):
    (Code.region id ra draw).wpIn (Fence.wide.inRound l0) m P (z1s w0 s' I p) a w:=by
 obtain⟨A,E,he,hc,_,hobs⟩:=z4F _ _ _ _ _ _ _ _ _ _ _ h List.nodup_range
 simp only[List.reverse_nil,List.nil_append]at he
 have R1:SRel w0 {s with hp:=s.hp++List.replicate (Y8 ra.toList ra.size) none} I p a w:=⟨R.tm,R.defers,R.hp.more _⟩
 have hall:Y8 ra.toList ra.size=Y8 ra.toList ra.toList.length:=by simp
 have hsl:z4t ra.toList s.hp.length (List.range ra.size) (s.hp++List.replicate (Y8 ra.toList ra.size) none) p:=by
  intro i hi o ho ha
  have hlt:i<ra.toList.length:=(List.getElem?_eq_some_iff.1 ho).1
  have h1:=z0P ho ha
  have h2:=z0O (ops:=ra.toList) (show i+1≤ra.toList.length from hlt)
  refine⟨?_,hB _ (by simp)⟩
  rw[List.getElem?_append_right (by omega),List.getElem?_replicate,if_pos (by rw[hall];omega)]
 have hQ : ∀ a' w' I' p', I.le I' → SRel w0 s' I' p' a' w' → z5w ra.toList s.hp.length p p' →
     z1s w0 s' I p .normal a' w':=by
  intro a' w' I' p' k1 k2 k3
  have hpp:p.le p':=by
   intro k x hx
   rw[k3 k]
   · exact hx
   · intro j o hj ha e
     have:p k=none:=hB k (by omega)
     rw[this]at hx;cases hx
  refine⟨rfl,I',p',k1,k2,fun k hk=>?_,hpp⟩
  have hlen:=z2B _ _ _ hc
  simp only[List.length_append,List.length_replicate]at hlen
  rw[k3 k]
  · exact hB k (by omega)
  · intro j o hj ha e
    have hlt:j<ra.toList.length:=(List.getElem?_eq_some_iff.1 hj).1
    have h1:=z0P hj ha
    have h2:=z0O (ops:=ra.toList) (show j+1≤ra.toList.length from hlt)
    rw[hall]at hlen
    omega
 have hobs': ∀i∈List.range ra.size,∀e,E i=some e→ ∀q∈e.ob,q:=fun i hi e he q hq=>hob q (hobs i hi e he q hq)
 cases draw with
 |false=>
  refine wpIn_region (z9R (zgQ _ _ _ _) hnd _ _ _ ?_)
  have:=z3A (P:=P) (w0:=w0) (Q:=z1s w0 s' I p) (List.range ra.size) _ a w I p hc List.nodup_range hobs' R1 hsl hQ
  simpa using this
 |true=>
  have hd':=hd rfl
  simp only[Bool.and_eq_true]at hd'
  obtain⟨⟨hd1,hd2⟩,hd3⟩:=hd'
  refine wpIn_region_any hd3 (zao (zgQ _ _ _ _) hnd _ _ _ _ ?_)
  rw[he]at hd1
  have hpw:=z3i (z3n _ hd1)
  have hrem:rem ra.toList (Array.replicate ra.size false)=List.range ra.size:=by
   unfold rem
   simp only[Array.length_toList]
   apply List.filter_eq_self.2
   intro i hi
   simp at hi
   simp[hi]
  have R2:SRel w0 {s with hp:=s.hp++List.replicate (Y8 ra.toList ra.size) none} I p a {w with drawn:=w.drawn+1}:=⟨R1.tm,R1.defers,R1.hp.drew⟩
  have:=z6f (P:=P) (w0:=w0) (s':=s') (Q:=z1s w0 s' I p) hd2 (fun i j hij hj=>hpw i j hij (by simpa using hj)) ra.size (Array.replicate ra.size false) _ a {w with drawn:=w.drawn+1} I p
   (by rw[hrem];simp) (by rw[hrem];exact hc) (by rw[hrem];exact hobs') R2 (by rw[hrem];exact hsl) hQ
  simpa using this
end
end Go.Fw
open Go
namespace Go.Fw
set_option maxRecDepth 100000
def z7h(id:Nat):Code→Option (Array Oper)
 | .region i ops _=>if i=id then some ops else none
 | .seq a b=>match z7h id a with|some x=>some x|none=>z7h id b
 | .block _ c=>z7h id c
 | .loop c=>z7h id c
 | .cond _ a b=>match z7h id a with|some x=>some x|none=>z7h id b
 | .rangeFunc _ _ a b=>match z7h id a with|some x=>some x|none=>z7h id b
 |_=>none
def zgW(P:Program)(f:FuncId)(id:Nat):Array Oper:=match P.funcs[f]? with
 |some fn=>match fn.body with|some c=>(z7h id c).getD #[]|none=> #[]
 |none=> #[]
def zkL(P:Program)(ra:Array Oper)(ors:Ors)(s:St):Option (St×List Prop×Bool):=
 match zby P ra.toList s.hp.length false (List.range ra.size) 0 ors {s with hp:=s.hp++List.replicate (Y8 ra.toList ra.size) none} [] []with
 | .ok _ _ s' ob es=>some (s',ob,z3Y s.hp.length ra.toList es&&z0j 0 ra.toList&&P.follows .mixedOrders)
 | .bad .. =>none
def zpm(p:PN)(x:RN):St:=⟨[.unk,.ptr 0 0,.ptr 1 0,.ptr 2 0,.ptr 3 0]++List.replicate 26 .unk,[some (own (p.n.x.l++(p.n.y.l++(p.n.z.l++p.d.l)))),some (own (RN.zero.l++(RN.zero.l++(RN.zero.l++RN.zero.l)))),some (own [j6 0]),some (own x.l)]⟩
noncomputable def zjd(p:PN)(x:RN):St×List Prop×Bool:=(zkL P (zgW P 91 6) [(0,.r (oN 1).c),(2,.r (zdA x).c),(3,.r (z8Z x).c)] (zpm p x)).getD (⟨[],[]⟩,[],false)
noncomputable def zjH(p:PN)(x:RN):St×List Prop×Bool:=(zkL P (zgW P 91 7) [(3,.r (J2 p.n (z8Z x)).c),(7,.r (z2D p.d (z8Z x)).c)] (zjd p x).1).getD (⟨[],[]⟩,[],false)
end Go.Fw
open Go Go.RowKit
namespace Go.Fw
set_option maxRecDepth 100000
theorem z6G {P : Program} {w0 : Start} {ra : Array Oper} {id l0 m : Nat} {ors : Ors} {s s' : St} {ob : List Prop} {a : Act} {w : World} {I : Imm} {p : Pl}
    (h:zkL P ra ors s=some (s',ob,true)) (hnd:ra.toList.all (fun o=>match o.op with| .defer _=>false|_=>true)=true) (hob: ∀q∈ob,q) (R:SRel w0 s I p a w) (hB:z2s s p):
    (Code.region id ra true).wpIn (Fence.wide.inRound l0) m P (z1s w0 s' I p) a w:=by
 unfold zkL at h
 split at h
 · rename_i h1
   injection h with h
   injection h with e1 h
   injection h with e2 e3
   subst e1 e2
   exact z7B h1 (fun _=>e3) hnd hob R hB
 · cases h
theorem zcq{o:Option (St×List Prop×Bool)}{d v:St×List Prop×Bool}(hv:v=o.getD d)(h:o.isSome=true)(h2:v.2.2=true):o=some (v.1,v.2.1,true):=by
 cases o with
 |none=>cases h
 |some x=>
  rw[hv,show(some x).getD d=x from rfl]at h2 ⊢
  rw[←h2]
theorem zhl(p:PN)(x:RN):zkL P (zgW P 91 6) [(0,.r (oN 1).c),(2,.r (zdA x).c),(3,.r (z8Z x).c)] (zpm p x)=some ((zjd p x).1,(zjd p x).2.1,true):=zcq (d:=(⟨[],[]⟩,[],false)) (v:=zjd p x) (by kernel_rfl) (by kernel_rfl) (by kernel_rfl)
theorem zkl(p:PN)(x:RN):zkL P (zgW P 91 7) [(3,.r (J2 p.n (z8Z x)).c),(7,.r (z2D p.d (z8Z x)).c)] (zjd p x).1=some ((zjH p x).1,(zjH p x).2.1,true):=zcq (d:=(⟨[],[]⟩,[],false)) (v:=zjH p x) (by kernel_rfl) (by kernel_rfl) (by kernel_rfl)
theorem zjD(p:PN)(x:RN):(zjd p x).2.1=[PCall P 144 [j6 1] (oN 1).c,PCall P 157 [x.c] (zdA x).c,PCall P 156 [(oN 1).c,(zdA x).c] (z8Z x).c,10≤10]:=by kernel_rfl
theorem zib(p:PN)(x:RN):(zjH p x).2.1=[PCall P 142 [p.n.c,(z8Z x).c] (J2 p.n (z8Z x)).c,PCall P 136 [p.d.c,(z8Z x).c] (z2D p.d (z8Z x)).c,40≤40,1≤1]:=by kernel_rfl
theorem zou(p:PN)(x:RN):(zjH p x).1.hp[2]?=some (some (own [j6 0])):=by kernel_rfl
theorem zng(p:PN)(x:RN):(zjH p x).1.hp[1]?=some (some (own ((z44 p x).n.x.l++((z44 p x).n.y.l++((z44 p x).n.z.l++(z44 p x).d.l))))):=by kernel_rfl
def PN.a(p:PN):Array Value:=p.n.x.a++(p.n.y.a++(p.n.z.a++p.d.a))
theorem l_map(x:RN):x.l=x.a.toList.map .lit:=rfl
theorem z9W(p:PN):p.n.x.l++(p.n.y.l++(p.n.z.l++p.d.l))=p.a.toList.map .lit:=by
 unfold PN.a
 rw[Array.toList_append,Array.toList_append,Array.toList_append,List.map_append,List.map_append,List.map_append,Go.Fw.l_map,Go.Fw.l_map,Go.Fw.l_map,Go.Fw.l_map]
theorem zhm{I:Imm}{q:Pl}(l:List Value):MV.repL I q (own (l.map .lit)) l:=by
 unfold own
 rw[MV.repL_map_cv]
 exact z2Y I l
end Go.Fw
open Go Go.RowKit
namespace Go.Fw
set_option maxRecDepth 100000
theorem z7b{x y:RN}{n:Nat}(hx:x.raw n=true)(hy:y.raw n=true):(z0G x y).1.raw (8*n+7)=true:=by
 have h1:=z1j hx
 have h2:=z1j hy
 unfold z0G
 cases ex:toO x with
 |none=>exact z16 (o:=none) (Nat.zero_le _)
 |some a=>
  cases ey:toO y with
  |none=>exact z16 (o:=none) (Nat.zero_le _)
  |some b=>
   rw[ex]at h1
   rw[ey]at h2
   dsimp only
   split
   · exact z16 (o:=none) (Nat.zero_le _)
   · have:=K.sz_div a b
     refine RN.ofK_raw _ ?_
     have h1:a.sz≤n:=h1
     have h2:b.sz≤n:=h2
     omega
theorem zcz{x:RN}{n:Nat}(hx:x.raw n=true):(zdA x).raw n=true:=by
 unfold zdA
 split
 · exact z6b hx
 · exact z6b (z6b hx)
theorem z3p:(oN 1).raw 1=true:=by rw[z9x];kernel_rfl
theorem zfj{x:RN}(hx:x.raw 1000=true):(z8Z x).raw 10000=true:=RN.raw_mono (z7b (RN.raw_mono z3p (by decide)) (zcz hx)) (by decide)
theorem zo3{p:PN}{x:RN}(hp:p.raw 1000=true)(hx:x.raw 1000=true):(∀q∈(zjd p x).2.1,q)∧ ∀q∈(zjH p x).2.1,q:=by
 obtain⟨hn,hd⟩:=PN.raw_iff.1 hp
 have k:=RN.raw_mono (zfj hx) (show 10000≤1000000 by decide)
 have x1:=RN.raw_mono hx (show 1000≤1000000 by decide)
 rw[zjD,zib]
 constructor
 · intro q hq
   simp only[List.mem_cons,List.not_mem_nil,or_false]at hq
   rcases hq with rfl|rfl|rfl|rfl
   · exact zaI 1 (by decide)
   · exact znx x x1
   · exact zak _ _ (RN.raw_mono z3p (by decide)) (zcz x1)
   · decide
 · intro q hq
   simp only[List.mem_cons,List.not_mem_nil,or_false]at hq
   rcases hq with rfl|rfl|rfl|rfl
   · exact z4i _ _ (VN.raw_mono hn (by decide)) k
   · exact z56 _ _ (RN.raw_mono hd (by decide)) k
   · decide
   · decide
def z8I(b0 b1 b2 b3:Nat):Pl:=fun k=>if k=0 then some (b0,40)else if k=1 then some (b1,40)else if k=2 then some (b2,1)else if k=3 then some (b3,10)else none
theorem z4W{b0 b1 b2 b3 i b κ:Nat}(h:z8I b0 b1 b2 b3 i=some (b,κ)):i=0∧b=b0∨i=1∧b=b1∨i=2∧b=b2∨i=3∧b=b3:=by
 unfold z8I at h
 split at h
 · cases h;exact .inl ⟨by assumption,rfl⟩
 · split at h
   · cases h;exact .inr (.inl ⟨by assumption,rfl⟩)
   · split at h
     · cases h;exact .inr (.inr (.inl ⟨by assumption,rfl⟩))
     · split at h
       · cases h;exact .inr (.inr (.inr ⟨by assumption,rfl⟩))
       · cases h
theorem zqj{I:Imm}{q:Pl}: ∀(n:Nat) (l:List Value),l.length=n→MV.repL I q (List.replicate n .unk) l
 |0,l,h=>List.eq_nil_of_length_eq_zero h
 |n+1,[],h=>by cases h
 |n+1,x::xs,h=>⟨x,xs,rfl,trivial,zqj n xs (by simpa using h)⟩
theorem PN.a_size(p:PN):p.a.size=40:=by
 unfold PN.a
 rw[Array.size_append,Array.size_append,Array.size_append];rfl
theorem zgp{I:Imm}{q:Pl}{c v:Array Value}{l:List CV}(hl:l=v.toList.map .lit)(hs:c.size=v.size)(h:MV.repL I q (own l) (c.toList.take (own l).length)):c=v:=by
 subst hl
 rw[List.take_of_length_le (by unfold own;simp;omega)]at h
 unfold own at h
 rw[MV.repL_map_cv]at h
 exact Array.ext' (z1D h)
theorem zcc (p : PN) (x : RN) (hp : p.raw 1000 = true) (hx : x.raw 1000 = true) {l m : Nat} (W : World) (b0 b1 b2 bx : Nat) (h01 : b0 < b1) (h12 : b1 < b2) (h2x : b2 < bx)
    (H0:W.heap[b0]?=some (.cells p.a 99 (0,0))) (H1:W.heap[b1]?=some (.cells PN.zero.a 99 (0,0))) (H2:W.heap[b2]?=some (.cells #[.int .i64 0] 24 (0,0))) (Hx:W.heap[bx]?=some (.cells x.a 39 (0,0)))
    (a:Act) (t:Value) (ts:List Value) (ha:a.tmps.toList=t:: .pointer (some ⟨b0,0,none⟩):: .pointer (some ⟨b1,0,none⟩):: .pointer (some ⟨b2,0,none⟩):: .pointer (some ⟨bx,0,none⟩)::ts) (hts:ts.length=26) (hd:a.defers=[]):
    (Code.region 6 (zgW P 91 6) true).wpIn (Fence.wide.inRound l) m P (fun e a1 W1=>e= .normal∧(Code.region 7 (zgW P 91 7) true).wpIn (Fence.wide.inRound l) m P (fun e a2 W2=>e= .normal∧a2.defers=[]∧
     Below b0 W W2∧(∀B,KeepsFrom B W W2)∧(∃T,W2.heap[b1]?=some (.cells (z44 p x).a T (0,0)))∧ ∃T,W2.heap[b2]?=some (.cells #[.int .i64 0] T (0,0))) a1 W1) a W:=by
 obtain⟨o6,o7⟩:=zo3 hp hx
 have hlt:=(Array.getElem?_eq_some_iff.1 Hx).1
 have own: ∀(v:Array Value) {c:List CV},c=v.toList.map .lit→MV.repL (fun _=>none) (z8I b0 b1 b2 bx) (own c) (v.toList.take (Go.Fw.own c).length):=by
  intro v c hc
  rw[hc,List.take_of_length_le (by unfold Go.Fw.own;simp)]
  exact zhm _
 have R:SRel ⟨W,fun _=>none,z8I b0 b1 b2 bx⟩ (zpm p x) (fun _=>none) (z8I b0 b1 b2 bx) a W:=by
  refine⟨?_,hd,⟨rfl,rfl,rfl,Nat.le_refl _,fun _ _=>rfl⟩,(fun b cs hb=>by cases hb),(fun b hb=>(hb rfl).elim),?_,?_⟩
  · rw[ha]
    exact⟨_,_,rfl,trivial,_,_,rfl,⟨b0,40,rfl,rfl⟩,_,_,rfl,⟨b1,40,rfl,rfl⟩,_,_,rfl,⟨b2,1,rfl,rfl⟩,_,_,rfl,⟨bx,10,rfl,rfl⟩,zqj 26 ts hts⟩
  · intro i cells hi
    match i,hi with
    |0,hi=>cases hi;exact⟨b0,40,_,_,rfl,H0,PN.a_size p,own p.a (z9W p),.inr ⟨0,40,rfl⟩,rfl⟩
    |1,hi=>cases hi;exact⟨b1,40,_,_,rfl,H1,PN.a_size .zero,own PN.zero.a (z9W .zero),.inr ⟨1,40,rfl⟩,rfl⟩
    |2,hi=>cases hi;exact⟨b2,1,_,_,rfl,H2,rfl,own #[.int .i64 0] rfl,.inr ⟨2,1,rfl⟩,rfl⟩
    |3,hi=>cases hi;exact⟨bx,10,_,_,rfl,Hx,rfl,own x.a rfl,.inr ⟨3,10,rfl⟩,rfl⟩
    |k+4,hi=>cases hi
  · intro i j ci cj b κ b' κ' _ _ hne h1 h2
    rcases z4W h1 with⟨e,rfl⟩|⟨e,rfl⟩|⟨e,rfl⟩|⟨e,rfl⟩<;>rcases z4W h2 with⟨e',rfl⟩|⟨e',rfl⟩|⟨e',rfl⟩|⟨e',rfl⟩<;>omega
 have B:z2s (zpm p x) (z8I b0 b1 b2 bx):=by
  intro k hk
  have:4≤k:=hk
  unfold z8I
  rw[if_neg (by omega),if_neg (by omega),if_neg (by omega),if_neg (by omega)]
 refine wpIn_mono (z6G (zhl p x) (by kernel_rfl) o6 R B) ?_
 rintro e a1 W1 ⟨rfl,I1,p1,hI1,R1,B1,hp1⟩
 refine⟨rfl,wpIn_mono (z6G (zkl p x) (by kernel_rfl) o7 R1 B1) ?_⟩
 rintro e a2 W2 ⟨rfl,I2,p2,hI2,R2,B2,hp2⟩
 have hle:(z8I b0 b1 b2 bx).le p2:=fun k v hk=>hp2 k v (hp1 k v hk)
 have blw:=R2.hp.below
 have kept: ∀k,k<W.heap.size→k≠b0→k≠b1→k≠b2→k≠bx→W2.heap[k]?=W.heap[k]?:=by
  intro k hk n0 n1 n2 n3
  refine blw.block k ?_
  rintro(h|⟨i,κ,h⟩)
  · have:W.heap.size≤k:=h
    omega
  · rcases z4W h with⟨_,e⟩|⟨_,e⟩|⟨_,e⟩|⟨_,e⟩<;>contradiction
 refine⟨rfl,R2.defers,⟨blw.os,blw.tape,blw.output,blw.size,fun k hk=>kept k (by omega) (by omega) (by omega) (by omega) (by omega)⟩,fun B=>⟨blw.size,fun k o _ hk ho=>?_⟩,?_,?_⟩
 · refine(kept k (Array.getElem?_eq_some_iff.1 hk).1 ?_ ?_ ?_ ?_).trans hk
   · rintro rfl;rw[H0]at hk;cases hk;cases ho
   · rintro rfl;rw[H1]at hk;cases hk;cases ho
   · rintro rfl;rw[H2]at hk;cases hk;cases ho
   · rintro rfl;rw[Hx]at hk;cases hk;cases ho
 · obtain⟨b,κ,c,T,k1,k2,k3,k4,_⟩:=R2.hp.live 1 _ (zng p x)
   rw[hle 1 (b1,40) rfl]at k1
   injection k1 with k1
   injection k1 with k1 k1'
   subst k1 k1'
   refine⟨T,?_⟩
   rw[k2,zgp (v:=(z44 p x).a) (z9W _) (k3.trans (PN.a_size _).symm) k4]
 · obtain⟨b,κ,c,T,k1,k2,k3,k4,_⟩:=R2.hp.live 2 _ (zou p x)
   rw[hle 2 (b2,1) rfl]at k1
   injection k1 with k1
   injection k1 with k1 k1'
   subst k1 k1'
   refine⟨T,?_⟩
   rw[k2,zgp (v:= #[.int .i64 0]) rfl k3 k4]
end Go.Fw
open Go Go.RowKit Go.Shelf Go.Proofs
namespace Go.Fw
attribute [local go_sem] Oper.semAt_some
set_option maxRecDepth 100000
set_option maxHeartbeats 1000000
theorem zfN (F : Fence) (n : Nat) (h : F.fn 168) (hro : F.round = none) (a : Array Value) (w : World) :
    CallsIn F n Tryz.prog 168 #[.agg a] w fun e w'=>e= .returned (.func (.func 221) #[] #[.pointer (some ⟨w.heap.size,0,none⟩)])∧w'=w.alloc (.cells a 51):=by
 refine callsIn_of_wp Tryz.func168 rfl h ?_ hro
 simp only[Tryz.ntmps168,List.size_toArray,List.length_cons,List.length_nil,Nat.reduceAdd,Nat.reduceSub,Array.replicate_succ,Array.replicate_zero,List.push_toArray,List.append_toArray,List.nil_append,List.cons_append]
 gi_wp2
 go_ret
 exact⟨rfl,rfl⟩
theorem z6a{x:RN}{v:Array Value}{w:World}{b k:Nat}(h:w.heap[b]?=some (.cells v 51 (0,0)))(hv:(v.toList.drop k).take 10=x.a.toList):(Instr.loadAt 39 (.pointer (some ⟨b,k,none⟩))).run Tryz.prog w= .ok (.agg x.a) w:=
 z4m Tryz.underlying39 h (by rw[z6o,hv]) (by rw[z6o];rfl)
theorem z98 {α : Type} (enc : α → Array Value) (u0 u1 u2 : α) (F : Fence) (n : Nat) (h : F.fn 221) (hro : F.round = none) (hn : 1 ≤ n) (Bn n₀ : Nat) (x y z : RN) (w : World) (hBn : Bn < w.heap.size) (hn0 : Bn < n₀)
    (hc:w.heap[Bn]?=some (.cells (x.a++(y.a++z.a)) 51 (0,0)))
    (e0:enc u0= #[.agg x.a]) (e1:enc u1= #[.agg y.a]) (e2:enc u2= #[.agg z.a]):
    SeqStopsK F n Tryz.prog 221 #[.pointer (some ⟨Bn,0,none⟩)] enc (Below n₀) (fun ys=>ys=[u0,u1,u2]) (fun pre=>pre<+:[u0,u1,u2]) 3 w:=fun l J Jx W hW hJ hJx hY h0=>by
 refine callsIn_of_wp Tryz.func221 rfl h ?_ hro
 simp only[Tryz.ntmps221,List.size_toArray,List.length_cons,List.length_nil,Nat.reduceAdd,Nat.reduceSub,Array.replicate_succ,Array.replicate_zero,List.push_toArray,List.append_toArray,List.nil_append,List.cons_append]
 have hb:=(hW.block Bn hBn).trans hc
 have l0:(Instr.loadAt 39 (.pointer (some ⟨Bn,0,none⟩))).run Tryz.prog W= .ok (.agg x.a) W:=z6a (x:=x) hb (by simp[RN.a])
 obtain⟨fn,tmps,assign,body,hy,hR⟩:=hY [] u0 W h0 (by simp)
 rw[e0]at hy
 gi_wp2_with (refine z09 rfl rfl rfl l0 ?_)
 refine hR.mono ?_
 rintro e W3 (⟨rfl,hJ3,hk3⟩|⟨rfl,hJx3⟩)
 · have hb3:=(hk3.block Bn hn0).trans hb
   have l1:(Instr.loadAt 39 (.pointer (some ⟨Bn,10,none⟩))).run Tryz.prog W3= .ok (.agg y.a) W3:=z6a (x:=y) hb3 (by simp[RN.a])
   obtain⟨fn,tmps,assign,body,hy,hR⟩:=hY _ u1 W3 hJ3 (by simp)
   rw[e1]at hy
   gi_wp2_with (refine z3l rfl rfl rfl l1 ?_)
   refine hR.mono ?_
   rintro e W4 (⟨rfl,hJ4,hk4⟩|⟨rfl,hJx4⟩)
   · have hb4:=(hk4.block Bn hn0).trans hb3
     have l2:(Instr.loadAt 39 (.pointer (some ⟨Bn,20,none⟩))).run Tryz.prog W4= .ok (.agg z.a) W4:=z6a (x:=z) hb4 (by simp[RN.a])
     obtain⟨fn,tmps,assign,body,hy,hR⟩:=hY _ u2 W4 hJ4 (by simp)
     rw[e2]at hy
     gi_wp2_with (refine z3l rfl rfl rfl l2 ?_)
     refine hR.mono ?_
     rintro e W5 (⟨rfl,hJ5,hk5⟩|⟨rfl,hJx5⟩)
     · gi_wp2
       go_end0
       exact⟨⟨_,rfl⟩,.inl ⟨_,rfl,hJ5⟩⟩
     · gi_wp2
       go_end0
       exact⟨⟨_,rfl⟩,.inr ⟨_,by simp,hJx5⟩⟩
   · gi_wp2
     refine⟨fun _ h=>(by cases h),?_⟩
     gi_wp2
     go_end0
     exact⟨⟨_,rfl⟩,.inr ⟨_,by simp,hJx4⟩⟩
 · gi_wp2
   refine⟨fun _ h=>(by cases h),?_⟩
   gi_wp2
   go_end0
   exact⟨⟨_,rfl⟩,.inr ⟨_,by simp,hJx3⟩⟩
end Go.Fw
