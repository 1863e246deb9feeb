/- A part of the proof that the law returns true for every input: an executor for the model's code, and what functions of the program compute. -/
import Derived.Test.YtcafjpldfnegiaaGreatDoorB10
import Derived.Test.YtcafjpldfnegiaaGreatDoorB11
import Derived.Test.YtcafjpldfnegiaaGreatDoorB15
import Derived.Test.YtcafjpldfnegiaaGreatDoorB28
import Derived.Test.YtcafjpldfnegiaaGreatDoorB40
import Derived.Test.YtcafjpldfnegiaaGreatDoorB42
import Derived.Test.YtcafjpldfnegiaaGreatDoorB43
import Derived.KernelRfl
import Derived.OrdersIn
import Derived.RangeFuncCalls
open Go
namespace Go.Fw
set_option maxRecDepth 100000
theorem zqy(x:RN)(hx:x.raw 1000000=true):PCall P 157 [x.c] (z1H x).c:=by
 unfold z1H
 by_cases h:z15 x<0
 · rw[if_pos h];exact znW x (decide_eq_true h) hx hx
 · rw[if_neg h];exact zmF x (decide_eq_false h) hx hx (z3S hx)
theorem zed(x y:RN)(hx:x.raw 1000000=true)(hy:y.raw 1000000=true):PCall P 156 [x.c,y.c] (z0f x y).1.c:=zmN x y hx hy
noncomputable def PN.ok(p:PN):Bool:=p.n.ok&&(!zV p.n&&p.d.ok)
theorem z1s(p:PN)(hp:p.raw 1000000=true):PCall P 79 [p.c] (.lit (.bool p.ok)):=by
 obtain⟨hn,hd⟩:=PN.raw_iff.1 hp
 unfold PN.ok
 cases e1:p.n.ok
 · exact zpB p e1 hn
 · cases e2:zV p.n
   · cases e3:p.d.ok
     · exact zmO p e1 e2 e3 hn hd
     · exact zqv p e1 e2 e3 hn hd
   · exact zoj p e1 e2 hn
noncomputable def oN(n:Int):RN:=ofO (toO (ofO (some (K.ofInt n))))
theorem z9N(n:Int):oN n= .ofK (K.ofInt n):=by unfold oN;rw[z7S];rfl
theorem zdZ(n:Int)(h: -9223372036854775808≤n∧n≤9223372036854775807):PCall P 144 [j6 n] (oN n).c:=by rw[z9N];exact z0D n h
noncomputable def z8O(x:RN):RN:=(z0f (oN 1) (z1H x)).1
noncomputable def z3J(p:PN)(x:RN):PN:=⟨z0A p.n (z8O x),z1Z p.d (z8O x)⟩
end Go.Fw
open Go IntKind
namespace Go.Fw
set_option maxRecDepth 100000
theorem zqf(x y:RN)(s5_0:RN.raw 1000000 y=true)(s6_0:RN.raw 1000000 x=true)(s6_1:RN.raw 1000000 (z4z y)=true):PCall P 135 [x.c,y.c] (RN.c (z3n x (z4z y))):=
 j3 (.r 5 (z8a (y) s5_0) (.r 6 (z89 (x) (z4z y) s6_0 s6_1) (.c (lq 10 10) .nil))) (by kernel_rfl)
theorem zg9:PCall P 164 [j6 4,j6 3] (.lit (.int .i64 1)):=
 j3 (.c (nz 3) (.c (nz 1) .nil)) (by kernel_rfl)
theorem zka:PCall P 217 [.agg [.lit (.bool false),.lit (.string {data:= #[(3:UInt8)]})]] (.tup [.lit (.int .i64 3),.lit (.bool true)]):=
 j3 (.r 4 (Y8 (false) ({data:= #[(3:UInt8)]})) (.c (nn 8) (.c (bq 0 1) .nil))) (by kernel_rfl)
theorem zlF:PCall P 217 [.agg [.lit (.bool false),.lit (.string {data:= #[(4:UInt8)]})]] (.tup [.lit (.int .i64 4),.lit (.bool true)]):=
 j3 (.r 4 (Y8 (false) ({data:= #[(4:UInt8)]})) (.c (nn 8) (.c (bq 0 1) .nil))) (by kernel_rfl)
end Go.Fw
open Go
namespace Go.Fw
set_option maxRecDepth 100000
noncomputable def kN(x:K):RN:=ofO (toO (ofO (some x)))
theorem z2i(x:K):kN x= .ofK x:=by unfold kN;rw[z7S];rfl
theorem zo7(i:Int):PCall P 33 [j6 i] (kN (X2 i)).c:=by rw[z2i];exact z69 i
theorem zow(i:Int):PCall P 35 [j6 i] (kN (X6 i)).c:=by rw[z2i];exact z8U i
theorem z1c(x:K):toO (kN x)=some x:=by rw[z2i];exact z79 x
theorem z58(x y:K):z1Z (kN x) (kN y)=kN (x*y):=by unfold z1Z;rw[z1c,z1c,z2i];rfl
theorem zpl(x y:K):z3n (kN x) (kN y)=kN (x+y):=by unfold z3n;rw[z1c,z1c,z2i];rfl
theorem zor(x y:K):zfc (kN x) (kN y)=kN (x-y):=by unfold zfc;rw[z1c,z1c,z2i];rfl
theorem zhA(x:K):z4z (kN x)=kN (-x):=by unfold z4z;rw[z1c,z2i];rfl
theorem zac(x:K):z15 (kN x)=K.sgn x:=by unfold z15;rw[z1c]
theorem z2E(n:Int):oN n=kN (K.ofInt n):=by rw[z9N,z2i]
theorem zcX(x y:K)(h:K.sgn y≠0):(z0f (kN x) (kN y)).1=kN (K.div x y):=by
 unfold z0f
 rw[z1c,z1c]
 dsimp only
 rw[if_neg h,z2i]
end Go.Fw
open Go
namespace Go.Fw
set_option maxRecDepth 100000
theorem zos(x y:RN)(hx:x.raw 1000000=true)(hy:y.raw 1000000=true):PCall P 135 [x.c,y.c] (zfc x y).c:=by
 have h:=zqf x y hy hx (z3S hy)
 have e:z3n x (z4z y)=zfc x y:=by unfold z3n zfc;rw[zg4,zrQ]
 rw[e]at h
 exact h
def k34:K:=⟨3,0,0,0,4,by decide,by decide⟩
def k54:K:=⟨5,0,0,0,4,by decide,by decide⟩
theorem zsL:PCall P 217 [.agg [.lit (.bool (kN k34).b0),.lit (.string (kN k34).s0)]] (.tup [j6 3,.lit (.bool true)]):=by
 rw[z2i,show(RN.ofK k34).s0=⟨#[3]⟩ by kernel_rfl]
 exact zka
theorem zsY:PCall P 217 [.agg [.lit (.bool (kN k34).b4),.lit (.string (kN k34).s4)]] (.tup [j6 4,.lit (.bool true)]):=by
 rw[z2i,show(RN.ofK k34).s4=⟨#[4]⟩ by kernel_rfl]
 exact zlF
end Go.Fw
open Go IntKind
namespace Go.Fw
set_option maxRecDepth 100000
theorem zlr(x y:RN)(g1:(z15 (zfc (z1Z x (kN (X6 (0:Int)))) (z1Z y (kN (X2 (0:Int)))))==0)=true)(g2:decide (z15 (z3n (z1Z x (kN (X2 (0:Int)))) (z1Z y (kN (X6 (0:Int)))))>0)=true)(s21_0:RN.raw 1000000 x=true)(s21_1:RN.raw 1000000 (kN (X6 (0:Int)))=true)(s24_0:RN.raw 1000000 y=true)(s24_1:RN.raw 1000000 (kN (X2 (0:Int)))=true)(s25_0:RN.raw 1000000 (z1Z x (kN (X6 (0:Int))))=true)(s25_1:RN.raw 1000000 (z1Z y (kN (X2 (0:Int))))=true)(s30_0:RN.raw 1000000 x=true)(s30_1:RN.raw 1000000 (kN (X2 (0:Int)))=true)(s33_0:RN.raw 1000000 y=true)(s33_1:RN.raw 1000000 (kN (X6 (0:Int)))=true)(s34_0:RN.raw 1000000 (z1Z x (kN (X2 (0:Int))))=true)(s34_1:RN.raw 1000000 (z1Z y (kN (X6 (0:Int))))=true)(s38_0:RN.raw 1000000 (zfc (z1Z x (kN (X6 (0:Int)))) (z1Z y (kN (X2 (0:Int)))))=true)(s42_0:RN.raw 1000000 (z3n (z1Z x (kN (X2 (0:Int)))) (z1Z y (kN (X6 (0:Int)))))=true):PCall P 158 [x.c,y.c] (.tup [.lit (.int .i64 0),RN.c (z3n (z1Z x (kN (X2 (0:Int)))) (z1Z y (kN (X6 (0:Int))))),.lit (.bool true)]):=
 j3 (.r 12 (zo7 ((0:Int))) (.r 14 (zow ((0:Int))) (.c (lq 10 10) (.c (lq 10 10) (.r 21 (z4u (x) (kN (X6 (0:Int))) s21_0 s21_1) (.r 24 (z4u (y) (kN (X2 (0:Int))) s24_0 s24_1) (.r 25 (zos (z1Z x (kN (X6 (0:Int)))) (z1Z y (kN (X2 (0:Int)))) s25_0 s25_1) (.c (lq 10 10) (.r 30 (z4u (x) (kN (X2 (0:Int))) s30_0 s30_1) (.r 33 (z4u (y) (kN (X6 (0:Int))) s33_0 s33_1) (.r 34 (z89 (z1Z x (kN (X2 (0:Int)))) (z1Z y (kN (X6 (0:Int)))) s34_0 s34_1) (.c (lq 10 10) (.r 38 (z2Q (zfc (z1Z x (kN (X6 (0:Int)))) (z1Z y (kN (X2 (0:Int))))) s38_0) (.b 40 g1 (.r 42 (z2Q (z3n (z1Z x (kN (X2 (0:Int)))) (z1Z y (kN (X6 (0:Int))))) s42_0) (.b 45 g2 (.c (lq 10 10) .nil))))))))))))))))) (by kernel_rfl)
theorem ziq(x:K)(h1:((bytesOf x.c1.natAbs).toList==[])=true)(h2:((bytesOf x.c2.natAbs).toList==[])=true)(s3_0:Smk x):PCall P 218 [Q8 x] (.lit (.bool ((bytesOf x.c3.natAbs).toList==[]))):=
 j3 (.r 3 (z01 (x) s3_0) (.c (bq 1 4) (.b 11 h1 (.c (bq 2 4) (.b 18 h2 (.c (bq 3 4) .nil)))))) (by kernel_rfl)
theorem zo9:PCall P 81 [.agg [j6 4,j6 3,j6 0]] (.lit (.bool true)):=
 j3 (.r 29 (zg9) .nil) (by kernel_rfl)
end Go.Fw
open Go
namespace Go.Fw
set_option maxRecDepth 100000
theorem zh1:FCall P 195 [Y3 (bytesOf 3)] (.sl 0 0 1 1) [j6 3]:=z1K (bytesOf 3) (by decide)
theorem zf3:FCall P 195 [Y3 (bytesOf 5)] (.sl 0 0 1 1) [j6 5]:=z1K (bytesOf 5) (by decide)
theorem p3S:PCall P 183 [.agg [.lit (.bool false),Y3 (bytesOf 3)]] (j6 1):=Q5 3
theorem p5S:PCall P 183 [.agg [.lit (.bool false),Y3 (bytesOf 5)]] (j6 1):=Q5 5
theorem p3G:PCall P 184 [.agg [.lit (.bool false),Y3 (bytesOf 3)],.agg [.lit (.bool false),Y3 (bytesOf 4)]] (.agg [.lit (.bool false),Y3 (bytesOf 1)]):=z6C 3 4 (by decide) (by decide)
theorem p5G:PCall P 184 [.agg [.lit (.bool false),Y3 (bytesOf 5)],.agg [.lit (.bool false),Y3 (bytesOf 4)]] (.agg [.lit (.bool false),Y3 (bytesOf 1)]):=z6C 5 4 (by decide) (by decide)
theorem p3A:PCall P 186 [.agg [.lit (.bool false),Y3 (bytesOf 3)]] (.agg [.lit (.bool false),Y3 (bytesOf 3)]):=z2H 3
theorem p5A:PCall P 186 [.agg [.lit (.bool false),Y3 (bytesOf 5)]] (.agg [.lit (.bool false),Y3 (bytesOf 5)]):=z2H 5
theorem p3O:PCall P 185 [.agg [.lit (.bool false),Y3 (bytesOf 3)],.agg [.lit (.bool false),Y3 (bytesOf 1)]] (.agg [.lit (.bool false),Y3 (bytesOf 3)]):=z2M 3 1 (by decide) (by decide) (by decide) (by decide)
theorem p5O:PCall P 185 [.agg [.lit (.bool false),Y3 (bytesOf 5)],.agg [.lit (.bool false),Y3 (bytesOf 1)]] (.agg [.lit (.bool false),Y3 (bytesOf 5)]):=z2M 5 1 (by decide) (by decide) (by decide) (by decide)
end Go.Fw
open Go IntKind
namespace Go.Fw
set_option maxRecDepth 100000
theorem RPr3_p1:PCall P 187 [.agg [.lit (.bool false),Y3 (bytesOf 3)]] (.lit (.string (Utf8.encode (51:Int)++{data:= #[]}))):=
 j3 (.c (J3 (false) (bytesOf 3)) (.c (zh1) (.c (bq 0 1) (.c (nz 10) (.c (bq 0 1) (.c (lq 1 1) (.c (nz 10) (.c (zeG) (.c (show BlksCv [some [.cv (.lit (.int .i64 0))],some [.cv (.lit (.int .i64 0))]]from(by simp[BlksCv,zdi])) (.c (show(1:Int)≤9223372036854775807 from by decide) (.o 3 (.r (.lit (.bool true))) (.o 14 (.f (.sl 0 0 1 1) [j6 3]) (.o 56 (.m [2] (.sl 0 0 0 1) [some [.cv (j6 0)]]) .nil))))))))))))) (by kernel_rfl)
theorem RPr5_p1:PCall P 187 [.agg [.lit (.bool false),Y3 (bytesOf 5)]] (.lit (.string (Utf8.encode (53:Int)++{data:= #[]}))):=
 j3 (.c (J3 (false) (bytesOf 5)) (.c (zf3) (.c (bq 0 1) (.c (nz 10) (.c (bq 0 1) (.c (lq 1 1) (.c (nz 10) (.c (zeG) (.c (show BlksCv [some [.cv (.lit (.int .i64 0))],some [.cv (.lit (.int .i64 0))]]from(by simp[BlksCv,zdi])) (.c (show(1:Int)≤9223372036854775807 from by decide) (.o 3 (.r (.lit (.bool true))) (.o 14 (.f (.sl 0 0 1 1) [j6 5]) (.o 56 (.m [2] (.sl 0 0 0 1) [some [.cv (j6 0)]]) .nil))))))))))))) (by kernel_rfl)
theorem zhx:PCall P 188 [j6 0] (.lit (.string {data:= #[]})):=
 j3 (.c (bq 0 4) .nil) (by kernel_rfl)
end Go.Fw
open Go
namespace Go.Fw
set_option maxRecDepth 100000
theorem p3P:PCall P 187 [.agg [.lit (.bool false),Y3 (bytesOf 3)]] (Y3 ⟨#[51]⟩):=RPr3_p1.eq (by kernel_rfl)
theorem p5P:PCall P 187 [.agg [.lit (.bool false),Y3 (bytesOf 5)]] (Y3 ⟨#[53]⟩):=RPr5_p1.eq (by kernel_rfl)
theorem zmC:k34.sz≤1000:=of_decide_eq_true (by kernel_rfl)
theorem zrR:k54.sz≤1000:=of_decide_eq_true (by kernel_rfl)
theorem zt3:PCall P 124 [n5C 3 0 0 0 4] (.lit (.bool true)):=z0n k34 (by have:=zmC;omega)
theorem ztc:PCall P 124 [n5C 5 0 0 0 4] (.lit (.bool true)):=z0n k54 (by have:=zrR;omega)
end Go.Fw
open Go
namespace Go.Fw
set_option maxRecDepth 100000
theorem z1d{x:K}{n:Nat}(h:x.sz≤n):(kN x).raw n=true:=by rw[z2i];exact RN.ofK_raw x h
theorem z1y{z:Int}{n:Nat}(h:(K.ofInt z).sz≤n):(oN z).raw n=true:=by rw[z2E];exact z1d h
theorem znv:(X2 0).sz≤10:=of_decide_eq_true (by kernel_rfl)
theorem zrb:(X6 0).sz≤10:=of_decide_eq_true (by kernel_rfl)
theorem zgM:(K.ofInt 0).sz≤10:=of_decide_eq_true (by kernel_rfl)
theorem zrq:(K.ofInt 1).sz≤10:=of_decide_eq_true (by kernel_rfl)
theorem zsN:(K.ofInt 3).sz≤10:=of_decide_eq_true (by kernel_rfl)
theorem zro:(K.ofInt 4).sz≤10:=of_decide_eq_true (by kernel_rfl)
theorem zsf:(K.ofInt 5).sz≤10:=of_decide_eq_true (by kernel_rfl)
theorem zrZ:PCall P 218 [(kN k34).c] (.lit (.bool true)):=by
 have h:=ziq k34 (by kernel_rfl) (by kernel_rfl) (by have:=zmC;simp only[Smk];omega)
 rw[show((bytesOf k34.c3.natAbs).toList==[])=true by kernel_rfl]at h
 rw[z2i]
 exact h
theorem zrS:PCall P 156 [(kN k34).c,(oN 1).c] (kN k34).c:=by
 have h:=zed (kN k34) (oN 1) (z1d (Nat.le_trans zmC (by decide))) (z1y (Nat.le_trans zrq (by decide)))
 rw[z2E,zcX _ _ (by rw[show K.sgn (K.ofInt 1)=1 by kernel_rfl];decide),show K.div k34 (K.ofInt 1)=k34 by kernel_rfl]at h
 rw[z2E];exact h
theorem zrP:PCall P 136 [(kN k54).c,(oN 4).c] (oN 5).c:=by
 have h:=z4u (kN k54) (oN 4) (z1d (Nat.le_trans zrR (by decide))) (z1y (Nat.le_trans zro (by decide)))
 rw[z2E,z58,show k54*K.ofInt 4=K.ofInt 5 by kernel_rfl,←z2E,←z2E]at h
 exact h
theorem zsO:PCall P 156 [(oN 5).c,(oN 1).c] (oN 5).c:=by
 have h:=zed (oN 5) (oN 1) (z1y (Nat.le_trans zsf (by decide))) (z1y (Nat.le_trans zrq (by decide)))
 rw[z2E,z2E,zcX _ _ (by rw[show K.sgn (K.ofInt 1)=1 by kernel_rfl];decide),show K.div (K.ofInt 5) (K.ofInt 1)=K.ofInt 5 by kernel_rfl]at h
 rw[z2E,z2E];exact h
theorem zrG:PCall P 136 [(oN 4).c,(kN (X2 0)).c] (oN 4).c:=by
 have h:=z4u (oN 4) (kN (X2 0)) (z1y (Nat.le_trans zro (by decide))) (z1d (Nat.le_trans znv (by decide)))
 rw[z2E,z58,show K.ofInt 4*X2 0=K.ofInt 4 by kernel_rfl,←z2E]at h
 exact h
theorem zsb:PCall P 136 [(oN 4).c,(kN (X6 0)).c] (oN 0).c:=by
 have h:=z4u (oN 4) (kN (X6 0)) (z1y (Nat.le_trans zro (by decide))) (z1d (Nat.le_trans zrb (by decide)))
 rw[z2E,z58,show K.ofInt 4*X6 0=K.ofInt 0 by kernel_rfl,←z2E,←z2E]at h
 exact h
theorem zcA:z3n (z1Z (oN 1) (kN (X2 0))) (z1Z (oN 0) (kN (X6 0)))=oN 1:=by
 rw[z2E,z2E,z58,z58,zpl,show K.ofInt 1*X2 0+K.ofInt 0*X6 0=K.ofInt 1 by kernel_rfl]
theorem zhH:zfc (z1Z (oN 1) (kN (X6 0))) (z1Z (oN 0) (kN (X2 0)))=oN 0:=by
 rw[z2E,z2E,z58,z58,zor,show K.ofInt 1*X6 0-K.ofInt 0*X2 0=K.ofInt 0 by kernel_rfl]
theorem zra(z:Int):z15 (oN z)=K.sgn (K.ofInt z):=by rw[z2E,zac]
theorem zrK:PCall P 158 [(oN 1).c,(oN 0).c] (.tup [j6 0,(oN 1).c,.lit (.bool true)]):=by
 have r1:=z1y (n:=10) zrq
 have r0:=z1y (n:=10) zgM
 have c:=z1d (n:=10) znv
 have s:=z1d (n:=10) zrb
 have big: ∀{x:RN} {n:Nat},x.raw n=true→n≤1000000→x.raw 1000000=true:=fun h hn=>RN.raw_mono h hn
 have h:=zlr (oN 1) (oN 0) (by rw[zhH,zra];kernel_rfl) (by rw[zcA,zra];kernel_rfl) (big r1 (by decide)) (big s (by decide)) (big r0 (by decide)) (big c (by decide)) (big (z5O r1 s) (by decide)) (big (z5O r0 c) (by decide))
  (big r1 (by decide)) (big c (by decide)) (big r0 (by decide)) (big s (by decide)) (big (z5O r1 c) (by decide)) (big (z5O r0 s) (by decide)) (by rw[zhH];exact big r0 (by decide)) (by rw[zcA];exact big r1 (by decide))
 rw[zcA]at h
 exact h
noncomputable def aP:PN:=⟨⟨oN 4,oN 0,oN 3⟩,oN 5⟩
noncomputable def cP:PN:=⟨⟨oN 1,oN 0,kN k34⟩,kN k54⟩
end Go.Fw
open Go IntKind
namespace Go.Fw
set_option maxRecDepth 100000
theorem zph:PCall P 159 [(kN k34).c] (.tup [.lit (.int .i64 3),.lit (.int .i64 4),.lit (.bool true)]):=
 j3 (.c (bq 0 4) (.r 7 (zsL) (.r 15 (zsY) (.r 29 (zrZ) .nil)))) (by kernel_rfl)
theorem zhW(h1:((oN (5:Int)).ok)=true)(s5_0:RN.raw 1000000 (oN (5:Int))=true)(s16_0:(-9223372036854775808:Int)≤4∧(4:Int)≤9223372036854775807)(s31_0:(-9223372036854775808:Int)≤3∧(3:Int)≤9223372036854775807):PCall P 75 [.agg [j6 4,j6 3,j6 0],(oN (5:Int)).c] (.tup [plR (oN (4:Int)) (oN (0:Int)) (oN (3:Int)) (oN (5:Int)),.lit (.int .i64 0)]):=
 j3 (.r 5 ((z0d (oN (5:Int)) s5_0).eqB h1) (.r 10 (zo9) (.r 16 (zdZ ((4:Int)) s16_0) (.c (lq 10 10) (.r 22 (zo7 ((0:Int))) (.r 23 (zrG) (.r 27 (zow ((0:Int))) (.r 28 (zsb) (.r 31 (zdZ ((3:Int)) s31_0) (.c (lq 30 30) (.c (lq 40 40) .nil))))))))))) (by kernel_rfl)
end Go.Fw
open Go
namespace Go.Fw
set_option maxRecDepth 100000
theorem zhe(x y:K)(t:Int)(b:Bool)(n:Nat)(hx:x.sz≤n)(hy:y.sz≤n):(mvX x y t b).sz≤2*n+5∧(mvY x y t b).sz≤2*n+5:=by
 have c:=zdm t
 have s:=zer t
 have hy':(if b then-y else y).sz≤n:=by cases b<;>simp only[Bool.false_eq_true,if_false,if_true,K.sz_neg]<;>exact hy
 have m1:=K.sz_mul x (X2 t)
 have m2:=K.sz_mul (if b then-y else y) (X6 t)
 have m3:=K.sz_mul x (X6 t)
 have m4:=K.sz_mul (if b then-y else y) (X2 t)
 have a1:=K.sz_sub (x*X2 t) ((if b then-y else y)*X6 t)
 have a2:=K.sz_add (x*X6 t) ((if b then-y else y)*X2 t)
 unfold mvX mvY
 omega
theorem zrA{x y z:RN}{n:Nat}(t:Int)(b:Bool)(h:z46 n x y z=true):z46 (2*n+5) (nX x y z t b) (nY x y z t b) (nZ x y z)=true:=by
 obtain⟨hx,hy,hz⟩:=Y6.1 h
 have h1:=z1B hx
 have h2:=z1B hy
 have h3:=z1B hz
 refine Y6.2 ⟨z0N ?_,z0N ?_,z0N ?_⟩
 · cases e1:toO x<;>cases e2:toO y<;>cases e3:toO z<;>first|exact Nat.zero_le _|skip
   rw[e1]at h1
   rw[e2]at h2
   exact(zhe _ _ t b n h1 h2).1
 · cases e1:toO x<;>cases e2:toO y<;>cases e3:toO z<;>first|exact Nat.zero_le _|skip
   rw[e1]at h1
   rw[e2]at h2
   exact(zhe _ _ t b n h1 h2).2
 · cases e1:toO x<;>cases e2:toO y<;>cases e3:toO z<;>first|exact Nat.zero_le _|skip
   rw[e3]at h3
   exact Nat.le_trans h3 (by omega)
end Go.Fw
open Go
namespace Go.Fw
set_option maxRecDepth 100000
theorem zpm(a b c:Int):(oV a b c).x=oN a:=by rw[zdv,z9N];rfl
theorem zrJ(a b c:Int):(oV a b c).y=oN b:=by rw[zdv,z9N];rfl
theorem zrz(a b c:Int):(oV a b c).z=oN c:=by rw[zdv,z9N];rfl
theorem zqL{x y:K}(h:kN x=kN y):x=y:=by
 have:=z1c x
 rw[h,z1c]at this
 injection this with e
 exact e.symm
theorem z9m(x:K):(kN x).ok=true:=by rw[z2i];exact RN.ofK_ok x
theorem z9p(z:Int):(oN z).ok=true:=by rw[z2E];exact z9m _
theorem zdW(x y:K):rnB (kN x) (kN y)=true↔x=y:=by rw[z3M];exact⟨zqL,fun h=>by rw[h]⟩
theorem z7c:rnB (oN 1) (oN 0)=false:=by
 cases h:rnB (oN 1) (oN 0)
 · rfl
 · rw[z2E,z2E,zdW]at h
   have:(K.ofInt 1).c0=(K.ofInt 0).c0:=by rw[h]
   exact absurd this (by decide)
theorem zcV:rnB (oN 4) (oN 0)=false:=by
 cases h:rnB (oN 4) (oN 0)
 · rfl
 · rw[z2E,z2E,zdW]at h
   have:(K.ofInt 4).c0=(K.ofInt 0).c0:=by rw[h]
   exact absurd this (by decide)
theorem zrX:aP.ok=true:=by
 unfold PN.ok zV aP
 rw[zpm]
 unfold VN.ok ok3
 rw[z9p,z9p,z9p,z9p,zcV];rfl
theorem zrI:cP.ok=true:=by
 unfold PN.ok zV cP
 rw[zpm]
 unfold VN.ok ok3
 rw[z9p,z9p,z9m,z9m,z7c];rfl
theorem zqr:aP.raw 10=true:=PN.raw_iff.2 ⟨Y6.2 ⟨z1y zro,z1y zgM,z1y zsN⟩,z1y zsf⟩
theorem zny:cP.raw 1000=true:=PN.raw_iff.2 ⟨Y6.2 ⟨z1y (Nat.le_trans zrq (by decide)),z1y (Nat.le_trans zgM (by decide)),z1d zmC⟩,z1d zrR⟩
theorem PN.raw_mono{p:PN}{n m:Nat}(h:p.raw n=true)(hm:n≤m):p.raw m=true:=by
 obtain⟨a,b⟩:=PN.raw_iff.1 h
 exact PN.raw_iff.2 ⟨VN.raw_mono a hm,RN.raw_mono b hm⟩
theorem zrM:PCall P 79 [cP.c] (.lit (.bool true)):=(z1s cP (PN.raw_mono zny (by decide))).eqB zrI
theorem zsi:rnB (oN 1) (oN 1)=true:=z3M.2 rfl
end Go.Fw
open Go IntKind
namespace Go.Fw
set_option maxRecDepth 100000
theorem zjU(_g1:rnB (oN (1:Int)) (oN (0:Int))=false)(h1:(rnB cP.n.x (oN (0:Int)))=false)(s11_0:RN.raw 1000000 cP.n.z=true)(s16_0:(-9223372036854775808:Int)≤0∧(0:Int)≤9223372036854775807)(s67_0:(-9223372036854775808:Int)≤4∧(4:Int)≤9223372036854775807):PCall P 77 [cP.c] (.tup [.agg [.lit (.int .i64 4),.lit (.int .i64 3),.lit (.int .i64 0)],RN.c (oN (5:Int)),.lit (.int .i64 0)]):=
 j3 (.r 5 (zrM) (.r 11 (z2Q (cP.n.z) s11_0) (.r 16 (zdZ ((0:Int)) s16_0) (.b 18 h1 (.r 32 (zrK) (.c (lq 10 10) (.r 48 (zrS) (.r 49 (zph) (.r 67 (zdZ ((4:Int)) s67_0) (.r 68 (zrP) (.r 70 (zsO) (.c (lq 3 3) (.c (lq 10 10) .nil))))))))))))) (by kernel_rfl)
end Go.Fw
namespace Go.Fw
section
variable{P:Program}{w0:Start}{ops:List Oper}{base:Nat}
theorem zdH {Q : Exit → Act → World → Prop} (hlo : ¬ LetsOut Q) {ops : Array Oper} (hnd : ops.toList.all (fun o => match o.op with | .defer _ => false | _ => true) = true) {l m i : Nat} {K K' : Act → World → Prop} {a : Act} {w : World}
    (hK: ∀a w,K a w→K' a w) (h:wpOp P ops Q i K a w):wpOpIn (Fence.wide.inRound l) m P ops Q i K' a w:=by
 unfold wpOp at h
 unfold wpOpIn
 cases ho:ops[i]? with
 |none=>rw[ho]at h;exact hK _ _ h
 |some o=>
  rw[ho]at h
  dsimp only at h ⊢
  split
  · rename_i hw
    rw[if_pos hw]at h
    have h:=h.resolve_right (fun k=>hlo k.2)
    have hd: ∀c,o.op≠ .defer c:=by
     intro c hc
     have:=List.all_eq_true.1 hnd o (Array.mem_toList_iff.2 (Array.mem_of_getElem? ho))
     rw[hc]at this;cases this
    refine⟨fun _ _=>trivial,?_⟩
    rw[Oper.semAt_eq _ _ _ hd]
    unfold Oper.wp at h
    generalize (execOp a.eval o).run P w=r at*
    have nd:(Fence.wide.inRound l).depth.isSome=true→1≤m:=fun h=>by cases h
    cases r with
    |ok x w'=>
     cases x with
     |value v=>exact hK _ _ h
     |skip=>exact hK _ _ h
     |defer d=>exact hK _ _ h
     |enter f args=>
      refine⟨nd,CallsIn.inRound l (callsIn_wide.2 (Calls.mono h ?_))⟩
      intro e w2 he
      cases e with
      |returned v=>exact hK _ _ he
      |panicked c=>exact he
      |outgrown=>exact he
     |row row args=>exact⟨nd,fun c cs _=>let⟨v,w2,r,st⟩:=h c cs;⟨v,w2,hK _ _ r,stepsIn_wide.2 st⟩⟩
     |_=>exact h.elim
    |halt x w'=>cases x<;>first|exact h|exact h.elim
  · rename_i hw
    rw[if_neg hw]at h
    exact⟨fun _ _=>trivial,hK _ _ h⟩
theorem zaF {Q : Exit → Act → World → Prop} (hlo : ¬ LetsOut Q) {ops : Array Oper} (hnd : ops.toList.all (fun o => match o.op with | .defer _ => false | _ => true) = true) {l m : Nat} :
    ∀(is:List Nat) (a:Act) (w:World),wpOps P ops Q is a w→wpOpsIn (Fence.wide.inRound l) m P ops Q is a w
 | [],_,_,h=>h
 |i::is,a,w,h=>by
  rw[wpOpsIn_cons]
  rw[wpOps_cons]at h
  exact zdH hlo hnd (fun a w=>zaF hlo hnd is a w) h
theorem zaj {Q : Exit → Act → World → Prop} (hlo : ¬ LetsOut Q) {ops : Array Oper} (hnd : ops.toList.all (fun o => match o.op with | .defer _ => false | _ => true) = true) {l m : Nat} {md : Region.Mode} :
    ∀(fuel:Nat) (li:Array Bool) (a:Act) (w:World),wpAny P md ops Q fuel li a w→wpAnyIn (Fence.wide.inRound l) m P md ops Q fuel li a w
 |0,_,_,_,h=>h
 |fuel+1,_,_,_,h=>⟨h.1,fun i hi=>zdH hlo hnd (fun a w=>zaj hlo hnd fuel _ a w) (h.2 i hi)⟩
theorem zhf(w0:Start)(s':St)(I:Imm)(p:Pl): ¬LetsOut (z1r w0 s' I p):=fun⟨_,_,h⟩=>by
 cases h.1
theorem z7g {ra : Array Oper} {id l0 m : Nat} {draw ask : Bool} {n n' : Nat} {ors ors' : Ors} {s s' : St} {ob : List Prop} {es : List (Nat × Option Eff)} {a : Act} {w : World} {I : Imm} {p : Pl}
    (h:zbU P ra.toList s.hp.length ask (List.range ra.size) n ors {s with hp:=s.hp++List.replicate (Y9 ra.toList ra.size) none} [] []= .ok n' ors' s' ob es)
    (hd:draw=true→(z4d s.hp.length ra.toList es&&z0p 0 ra.toList&&P.follows .mixedOrders)=true) (hnd:ra.toList.all (fun o=>match o.op with| .defer _=>false|_=>true)=true) (hob: ∀q∈ob,q) (R:SRel w0 s I p a w) (hB:z2C s p):
    (Code.region id ra draw).wpIn (Fence.wide.inRound l0) m P (z1r w0 s' I p) a w:=by
 obtain⟨A,E,he,hc,_,hobs⟩:=z52 _ _ _ _ _ _ _ _ _ _ _ h List.nodup_range
 simp only[List.reverse_nil,List.nil_append]at he
 have R1:SRel w0 {s with hp:=s.hp++List.replicate (Y9 ra.toList ra.size) none} I p a w:=⟨R.tm,R.defers,R.hp.more _⟩
 have hall:Y9 ra.toList ra.size=Y9 ra.toList ra.toList.length:=by simp
 have hsl:z4L ra.toList s.hp.length (List.range ra.size) (s.hp++List.replicate (Y9 ra.toList ra.size) none) p:=by
  intro i hi o ho ha
  have hlt:i<ra.toList.length:=(List.getElem?_eq_some_iff.1 ho).1
  have h1:=z0Z ho ha
  have h2:=z0T (ops:=ra.toList) (show i+1≤ra.toList.length from hlt)
  refine⟨?_,hB _ (by simp)⟩
  rw[List.getElem?_append_right (by omega),List.getElem?_replicate,if_pos (by rw[hall];omega)]
 have hQ : ∀ a' w' I' p', I.le I' → SRel w0 s' I' p' a' w' → z5s ra.toList s.hp.length p p' →
     z1r w0 s' I p .normal a' w':=by
  intro a' w' I' p' k1 k2 k3
  have hpp:p.le p':=by
   intro k x hx
   rw[k3 k]
   · exact hx
   · intro j o hj ha e
     have:p k=none:=hB k (by omega)
     rw[this]at hx;cases hx
  refine⟨rfl,I',p',k1,k2,fun k hk=>?_,hpp⟩
  have hlen:=z2K _ _ _ hc
  simp only[List.length_append,List.length_replicate]at hlen
  rw[k3 k]
  · exact hB k (by omega)
  · intro j o hj ha e
    have hlt:j<ra.toList.length:=(List.getElem?_eq_some_iff.1 hj).1
    have h1:=z0Z hj ha
    have h2:=z0T (ops:=ra.toList) (show j+1≤ra.toList.length from hlt)
    rw[hall]at hlen
    omega
 have hobs': ∀i∈List.range ra.size,∀e,E i=some e→ ∀q∈e.ob,q:=fun i hi e he q hq=>hob q (hobs i hi e he q hq)
 cases draw with
 |false=>
  refine wpIn_region (zaF (zhf _ _ _ _) hnd _ _ _ ?_)
  have:=z3O (P:=P) (w0:=w0) (Q:=z1r w0 s' I p) (List.range ra.size) _ a w I p hc List.nodup_range hobs' R1 hsl hQ
  simpa using this
 |true=>
  have hd':=hd rfl
  simp only[Bool.and_eq_true]at hd'
  obtain⟨⟨hd1,hd2⟩,hd3⟩:=hd'
  refine wpIn_region_any hd3 (zaj (zhf _ _ _ _) hnd _ _ _ _ ?_)
  rw[he]at hd1
  have hpw:=z3v (z3w _ hd1)
  have hrem:rem ra.toList (Array.replicate ra.size false)=List.range ra.size:=by
   unfold rem
   simp only[Array.length_toList]
   apply List.filter_eq_self.2
   intro i hi
   simp at hi
   simp[hi]
  have R2:SRel w0 {s with hp:=s.hp++List.replicate (Y9 ra.toList ra.size) none} I p a {w with drawn:=w.drawn+1}:=⟨R1.tm,R1.defers,R1.hp.drew⟩
  have:=z6j (P:=P) (w0:=w0) (s':=s') (Q:=z1r w0 s' I p) hd2 (fun i j hij hj=>hpw i j hij (by simpa using hj)) ra.size (Array.replicate ra.size false) _ a {w with drawn:=w.drawn+1} I p
   (by rw[hrem];simp) (by rw[hrem];exact hc) (by rw[hrem];exact hobs') R2 (by rw[hrem];exact hsl) hQ
  simpa using this
end
end Go.Fw
open Go
namespace Go.Fw
set_option maxRecDepth 100000
def z7k(id:Nat):Code→Option (Array Oper)
 | .region i ops _=>if i=id then some ops else none
 | .seq a b=>match z7k id a with|some x=>some x|none=>z7k id b
 | .block _ c=>z7k id c
 | .loop c=>z7k id c
 | .cond _ a b=>match z7k id a with|some x=>some x|none=>z7k id b
 | .rangeFunc _ _ a b=>match z7k id a with|some x=>some x|none=>z7k id b
 |_=>none
def zhu(P:Program)(f:FuncId)(id:Nat):Array Oper:=match P.funcs[f]? with
 |some fn=>match fn.body with|some c=>(z7k id c).getD #[]|none=> #[]
 |none=> #[]
def zm8(P:Program)(ra:Array Oper)(ors:Ors)(s:St):Option (St×List Prop×Bool):=
 match zbU P ra.toList s.hp.length false (List.range ra.size) 0 ors {s with hp:=s.hp++List.replicate (Y9 ra.toList ra.size) none} [] []with
 | .ok _ _ s' ob es=>some (s',ob,z4d s.hp.length ra.toList es&&z0p 0 ra.toList&&P.follows .mixedOrders)
 | .bad .. =>none
def zrv(p:PN)(x:RN):St:=⟨[.unk,.ptr 0 0,.ptr 1 0,.ptr 2 0,.ptr 3 0]++List.replicate 26 .unk,[some (own (p.n.x.l++(p.n.y.l++(p.n.z.l++p.d.l)))),some (own (RN.zero.l++(RN.zero.l++(RN.zero.l++RN.zero.l)))),some (own [j6 0]),some (own x.l)]⟩
noncomputable def zie(p:PN)(x:RN):St×List Prop×Bool:=(zm8 P (zhu P 91 6) [(0,.r (oN 1).c),(2,.r (z1H x).c),(3,.r (z8O x).c)] (zrv p x)).getD (⟨[],[]⟩,[],false)
noncomputable def zhV(p:PN)(x:RN):St×List Prop×Bool:=(zm8 P (zhu P 91 7) [(3,.r (z0A p.n (z8O x)).c),(7,.r (z1Z p.d (z8O x)).c)] (zie p x).1).getD (⟨[],[]⟩,[],false)
end Go.Fw
open Go Go.RowKit
namespace Go.Fw
set_option maxRecDepth 100000
theorem z70 {P : Program} {w0 : Start} {ra : Array Oper} {id l0 m : Nat} {ors : Ors} {s s' : St} {ob : List Prop} {a : Act} {w : World} {I : Imm} {p : Pl}
    (h:zm8 P ra ors s=some (s',ob,true)) (hnd:ra.toList.all (fun o=>match o.op with| .defer _=>false|_=>true)=true) (hob: ∀q∈ob,q) (R:SRel w0 s I p a w) (hB:z2C s p):
    (Code.region id ra true).wpIn (Fence.wide.inRound l0) m P (z1r w0 s' I p) a w:=by
 unfold zm8 at h
 split at h
 · rename_i h1
   injection h with h
   injection h with e1 h
   injection h with e2 e3
   subst e1 e2
   exact z7g h1 (fun _=>e3) hnd hob R hB
 · cases h
theorem zdg{o:Option (St×List Prop×Bool)}{d v:St×List Prop×Bool}(hv:v=o.getD d)(h:o.isSome=true)(h2:v.2.2=true):o=some (v.1,v.2.1,true):=by
 cases o with
 |none=>cases h
 |some x=>
  rw[hv,show(some x).getD d=x from rfl]at h2 ⊢
  rw[←h2]
theorem zkT(p:PN)(x:RN):zm8 P (zhu P 91 6) [(0,.r (oN 1).c),(2,.r (z1H x).c),(3,.r (z8O x).c)] (zrv p x)=some ((zie p x).1,(zie p x).2.1,true):=zdg (d:=(⟨[],[]⟩,[],false)) (v:=zie p x) (by kernel_rfl) (by kernel_rfl) (by kernel_rfl)
theorem zkW(p:PN)(x:RN):zm8 P (zhu P 91 7) [(3,.r (z0A p.n (z8O x)).c),(7,.r (z1Z p.d (z8O x)).c)] (zie p x).1=some ((zhV p x).1,(zhV p x).2.1,true):=zdg (d:=(⟨[],[]⟩,[],false)) (v:=zhV p x) (by kernel_rfl) (by kernel_rfl) (by kernel_rfl)
theorem zik(p:PN)(x:RN):(zie p x).2.1=[PCall P 144 [j6 1] (oN 1).c,PCall P 157 [x.c] (z1H x).c,PCall P 156 [(oN 1).c,(z1H x).c] (z8O x).c,10≤10]:=by kernel_rfl
theorem zkH(p:PN)(x:RN):(zhV p x).2.1=[PCall P 142 [p.n.c,(z8O x).c] (z0A p.n (z8O x)).c,PCall P 136 [p.d.c,(z8O x).c] (z1Z p.d (z8O x)).c,40≤40,1≤1]:=by kernel_rfl
theorem zqd(p:PN)(x:RN):(zhV p x).1.hp[2]?=some (some (own [j6 0])):=by kernel_rfl
theorem zpQ(p:PN)(x:RN):(zhV p x).1.hp[1]?=some (some (own ((z3J p x).n.x.l++((z3J p x).n.y.l++((z3J p x).n.z.l++(z3J p x).d.l))))):=by kernel_rfl
def PN.a(p:PN):Array Value:=p.n.x.a++(p.n.y.a++(p.n.z.a++p.d.a))
theorem l_map(x:RN):x.l=x.a.toList.map .lit:=rfl
theorem zaU(p:PN):p.n.x.l++(p.n.y.l++(p.n.z.l++p.d.l))=p.a.toList.map .lit:=by
 unfold PN.a
 rw[Array.toList_append,Array.toList_append,Array.toList_append,List.map_append,List.map_append,List.map_append,Go.Fw.l_map,Go.Fw.l_map,Go.Fw.l_map,Go.Fw.l_map]
theorem ziV{I:Imm}{q:Pl}(l:List Value):MV.repL I q (own (l.map .lit)) l:=by
 unfold own
 rw[MV.repL_map_cv]
 exact z3k I l
end Go.Fw
open Go Go.RowKit
namespace Go.Fw
set_option maxRecDepth 100000
theorem z9W{x y:RN}{n:Nat}(hx:x.raw n=true)(hy:y.raw n=true):(z0f x y).1.raw (8*n+7)=true:=by
 have h1:=z1B hx
 have h2:=z1B hy
 unfold z0f
 cases ex:toO x with
 |none=>exact z0N (o:=none) (Nat.zero_le _)
 |some a=>
  cases ey:toO y with
  |none=>exact z0N (o:=none) (Nat.zero_le _)
  |some b=>
   rw[ex]at h1
   rw[ey]at h2
   dsimp only
   split
   · exact z0N (o:=none) (Nat.zero_le _)
   · have:=K.sz_div a b
     refine RN.ofK_raw _ ?_
     have h1:a.sz≤n:=h1
     have h2:b.sz≤n:=h2
     omega
theorem z64{x:RN}{n:Nat}(hx:x.raw n=true):(z1H x).raw n=true:=by
 unfold z1H
 split
 · exact z3S hx
 · exact z3S (z3S hx)
theorem z5T:(oN 1).raw 1=true:=by rw[z9N];kernel_rfl
theorem zgQ{x:RN}(hx:x.raw 1000=true):(z8O x).raw 10000=true:=RN.raw_mono (z9W (RN.raw_mono z5T (by decide)) (z64 hx)) (by decide)
theorem zpj{p:PN}{x:RN}(hp:p.raw 1000=true)(hx:x.raw 1000=true):(∀q∈(zie p x).2.1,q)∧ ∀q∈(zhV p x).2.1,q:=by
 obtain⟨hn,hd⟩:=PN.raw_iff.1 hp
 have k:=RN.raw_mono (zgQ hx) (show 10000≤1000000 by decide)
 have x1:=RN.raw_mono hx (show 1000≤1000000 by decide)
 rw[zik,zkH]
 constructor
 · intro q hq
   simp only[List.mem_cons,List.not_mem_nil,or_false]at hq
   rcases hq with rfl|rfl|rfl|rfl
   · exact zdZ 1 (by decide)
   · exact zqy x x1
   · exact zed _ _ (RN.raw_mono z5T (by decide)) (z64 x1)
   · decide
 · intro q hq
   simp only[List.mem_cons,List.not_mem_nil,or_false]at hq
   rcases hq with rfl|rfl|rfl|rfl
   · exact zfF _ _ (VN.raw_mono hn (by decide)) k
   · exact z4u _ _ (RN.raw_mono hd (by decide)) k
   · decide
   · decide
def z8i(b0 b1 b2 b3:Nat):Pl:=fun k=>if k=0 then some (b0,40)else if k=1 then some (b1,40)else if k=2 then some (b2,1)else if k=3 then some (b3,10)else none
theorem z4R{b0 b1 b2 b3 i b κ:Nat}(h:z8i b0 b1 b2 b3 i=some (b,κ)):i=0∧b=b0∨i=1∧b=b1∨i=2∧b=b2∨i=3∧b=b3:=by
 unfold z8i at h
 split at h
 · cases h;exact .inl ⟨by assumption,rfl⟩
 · split at h
   · cases h;exact .inr (.inl ⟨by assumption,rfl⟩)
   · split at h
     · cases h;exact .inr (.inr (.inl ⟨by assumption,rfl⟩))
     · split at h
       · cases h;exact .inr (.inr (.inr ⟨by assumption,rfl⟩))
       · cases h
theorem zst{I:Imm}{q:Pl}: ∀(n:Nat) (l:List Value),l.length=n→MV.repL I q (List.replicate n .unk) l
 |0,l,h=>List.eq_nil_of_length_eq_zero h
 |n+1,[],h=>by cases h
 |n+1,x::xs,h=>⟨x,xs,rfl,trivial,zst n xs (by simpa using h)⟩
theorem PN.a_size(p:PN):p.a.size=40:=by
 unfold PN.a
 rw[Array.size_append,Array.size_append,Array.size_append];rfl
theorem zhn{I:Imm}{q:Pl}{c v:Array Value}{l:List CV}(hl:l=v.toList.map .lit)(hs:c.size=v.size)(h:MV.repL I q (own l) (c.toList.take (own l).length)):c=v:=by
 subst hl
 rw[List.take_of_length_le (by unfold own;simp;omega)]at h
 unfold own at h
 rw[MV.repL_map_cv]at h
 exact Array.ext' (z1Q h)
theorem zc3 (p : PN) (x : RN) (hp : p.raw 1000 = true) (hx : x.raw 1000 = true) {l m : Nat} (W : World) (b0 b1 b2 bx : Nat) (h01 : b0 < b1) (h12 : b1 < b2) (h2x : b2 < bx)
    (H0:W.heap[b0]?=some (.cells p.a 99 (0,0))) (H1:W.heap[b1]?=some (.cells PN.zero.a 99 (0,0))) (H2:W.heap[b2]?=some (.cells #[.int .i64 0] 24 (0,0))) (Hx:W.heap[bx]?=some (.cells x.a 39 (0,0)))
    (a:Act) (t:Value) (ts:List Value) (ha:a.tmps.toList=t:: .pointer (some ⟨b0,0,none⟩):: .pointer (some ⟨b1,0,none⟩):: .pointer (some ⟨b2,0,none⟩):: .pointer (some ⟨bx,0,none⟩)::ts) (hts:ts.length=26) (hd:a.defers=[]):
    (Code.region 6 (zhu P 91 6) true).wpIn (Fence.wide.inRound l) m P (fun e a1 W1=>e= .normal∧(Code.region 7 (zhu P 91 7) true).wpIn (Fence.wide.inRound l) m P (fun e a2 W2=>e= .normal∧a2.defers=[]∧
     Below b0 W W2∧(∀B,KeepsFrom B W W2)∧(∃T,W2.heap[b1]?=some (.cells (z3J p x).a T (0,0)))∧ ∃T,W2.heap[b2]?=some (.cells #[.int .i64 0] T (0,0))) a1 W1) a W:=by
 obtain⟨o6,o7⟩:=zpj hp hx
 have hlt:=(Array.getElem?_eq_some_iff.1 Hx).1
 have own: ∀(v:Array Value) {c:List CV},c=v.toList.map .lit→MV.repL (fun _=>none) (z8i b0 b1 b2 bx) (own c) (v.toList.take (Go.Fw.own c).length):=by
  intro v c hc
  rw[hc,List.take_of_length_le (by unfold Go.Fw.own;simp)]
  exact ziV _
 have R:SRel ⟨W,fun _=>none,z8i b0 b1 b2 bx⟩ (zrv p x) (fun _=>none) (z8i b0 b1 b2 bx) a W:=by
  refine⟨?_,hd,⟨rfl,rfl,rfl,Nat.le_refl _,fun _ _=>rfl⟩,(fun b cs hb=>by cases hb),(fun b hb=>(hb rfl).elim),?_,?_⟩
  · rw[ha]
    exact⟨_,_,rfl,trivial,_,_,rfl,⟨b0,40,rfl,rfl⟩,_,_,rfl,⟨b1,40,rfl,rfl⟩,_,_,rfl,⟨b2,1,rfl,rfl⟩,_,_,rfl,⟨bx,10,rfl,rfl⟩,zst 26 ts hts⟩
  · intro i cells hi
    match i,hi with
    |0,hi=>cases hi;exact⟨b0,40,_,_,rfl,H0,PN.a_size p,own p.a (zaU p),.inr ⟨0,40,rfl⟩,rfl⟩
    |1,hi=>cases hi;exact⟨b1,40,_,_,rfl,H1,PN.a_size .zero,own PN.zero.a (zaU .zero),.inr ⟨1,40,rfl⟩,rfl⟩
    |2,hi=>cases hi;exact⟨b2,1,_,_,rfl,H2,rfl,own #[.int .i64 0] rfl,.inr ⟨2,1,rfl⟩,rfl⟩
    |3,hi=>cases hi;exact⟨bx,10,_,_,rfl,Hx,rfl,own x.a rfl,.inr ⟨3,10,rfl⟩,rfl⟩
    |k+4,hi=>cases hi
  · intro i j ci cj b κ b' κ' _ _ hne h1 h2
    rcases z4R h1 with⟨e,rfl⟩|⟨e,rfl⟩|⟨e,rfl⟩|⟨e,rfl⟩<;>rcases z4R h2 with⟨e',rfl⟩|⟨e',rfl⟩|⟨e',rfl⟩|⟨e',rfl⟩<;>omega
 have B:z2C (zrv p x) (z8i b0 b1 b2 bx):=by
  intro k hk
  have:4≤k:=hk
  unfold z8i
  rw[if_neg (by omega),if_neg (by omega),if_neg (by omega),if_neg (by omega)]
 refine wpIn_mono (z70 (zkT p x) (by kernel_rfl) o6 R B) ?_
 rintro e a1 W1 ⟨rfl,I1,p1,hI1,R1,B1,hp1⟩
 refine⟨rfl,wpIn_mono (z70 (zkW p x) (by kernel_rfl) o7 R1 B1) ?_⟩
 rintro e a2 W2 ⟨rfl,I2,p2,hI2,R2,B2,hp2⟩
 have hle:(z8i b0 b1 b2 bx).le p2:=fun k v hk=>hp2 k v (hp1 k v hk)
 have blw:=R2.hp.below
 have kept: ∀k,k<W.heap.size→k≠b0→k≠b1→k≠b2→k≠bx→W2.heap[k]?=W.heap[k]?:=by
  intro k hk n0 n1 n2 n3
  refine blw.block k ?_
  rintro(h|⟨i,κ,h⟩)
  · have:W.heap.size≤k:=h
    omega
  · rcases z4R h with⟨_,e⟩|⟨_,e⟩|⟨_,e⟩|⟨_,e⟩<;>contradiction
 refine⟨rfl,R2.defers,⟨blw.os,blw.tape,blw.output,blw.size,fun k hk=>kept k (by omega) (by omega) (by omega) (by omega) (by omega)⟩,fun B=>⟨blw.size,fun k o _ hk ho=>?_⟩,?_,?_⟩
 · refine(kept k (Array.getElem?_eq_some_iff.1 hk).1 ?_ ?_ ?_ ?_).trans hk
   · rintro rfl;rw[H0]at hk;cases hk;cases ho
   · rintro rfl;rw[H1]at hk;cases hk;cases ho
   · rintro rfl;rw[H2]at hk;cases hk;cases ho
   · rintro rfl;rw[Hx]at hk;cases hk;cases ho
 · obtain⟨b,κ,c,T,k1,k2,k3,k4,_⟩:=R2.hp.live 1 _ (zpQ p x)
   rw[hle 1 (b1,40) rfl]at k1
   injection k1 with k1
   injection k1 with k1 k1'
   subst k1 k1'
   refine⟨T,?_⟩
   rw[k2,zhn (v:=(z3J p x).a) (zaU _) (k3.trans (PN.a_size _).symm) k4]
 · obtain⟨b,κ,c,T,k1,k2,k3,k4,_⟩:=R2.hp.live 2 _ (zqd p x)
   rw[hle 2 (b2,1) rfl]at k1
   injection k1 with k1
   injection k1 with k1 k1'
   subst k1 k1'
   refine⟨T,?_⟩
   rw[k2,zhn (v:= #[.int .i64 0]) rfl k3 k4]
end Go.Fw
