/- A part of the proof that the law returns true for every input: an executor for the model's code, and what functions of the program compute. -/
import Derived.Test.YtcafjpldfnegiaaGreatDoorB10
import Derived.Test.YtcafjpldfnegiaaGreatDoorB11
import Derived.Test.YtcafjpldfnegiaaGreatDoorB15
import Derived.Test.YtcafjpldfnegiaaGreatDoorB28
import Derived.Test.YtcafjpldfnegiaaGreatDoorB39
import Derived.Test.YtcafjpldfnegiaaGreatDoorB40
import Derived.Test.YtcafjpldfnegiaaGreatDoorB42
import Derived.KernelRfl
import Derived.OrdersIn
import Derived.RangeFuncCalls
open Go
namespace Go.Fw
set_option maxRecDepth 100000
theorem FAbs_r(x:RN)(hx:x.raw 1000000=true):PCall P 157 [x.c] (nAbs x).c:=by
 unfold nAbs
 by_cases h:nSgn x<0
 · rw[if_pos h];exact faA_p1 x (decide_eq_true h) hx hx
 · rw[if_neg h];exact faA_p2 x (decide_eq_false h) hx hx (raw_neg hx)
theorem FQuo_r(x y:RN)(hx:x.raw 1000000=true)(hy:y.raw 1000000=true):PCall P 156 [x.c,y.c] (nDivE x y).1.c:=faQ_p1 x y hx hy
noncomputable def PN.ok(p:PN):Bool:=p.n.ok&&(!zV p.n&&p.d.ok)
theorem PVal_r(p:PN)(hp:p.raw 1000000=true):PCall P 79 [p.c] (.lit (.bool p.ok)):=by
 obtain⟨hn,hd⟩:=PN.raw_iff.1 hp
 unfold PN.ok
 cases e1:p.n.ok
 · exact plV_p4 p e1 hn
 · cases e2:zV p.n
   · cases e3:p.d.ok
     · exact plV_p3 p e1 e2 e3 hn hd
     · exact plV_p2 p e1 e2 e3 hn hd
   · exact plV_p1 p e1 e2 hn
noncomputable def oN(n:Int):RN:=ofO (toO (ofO (some (K.ofInt n))))
theorem oN_eq(n:Int):oN n= .ofK (K.ofInt n):=by unfold oN;rw[toO_ofO];rfl
theorem FOf_r(n:Int)(h: -9223372036854775808≤n∧n≤9223372036854775807):PCall P 144 [ci64 n] (oN n).c:=by rw[oN_eq];exact FOf_spec n h
noncomputable def canK(x:RN):RN:=(nDivE (oN 1) (nAbs x)).1
noncomputable def canBy(p:PN)(x:RN):PN:=⟨wScale p.n (canK x),nMul p.d (canK x)⟩
end Go.Fw
open Go IntKind
namespace Go.Fw
set_option maxRecDepth 100000
theorem fSb_p1(x y:RN)(s5_0:RN.raw 1000000 y=true)(s6_0:RN.raw 1000000 x=true)(s6_1:RN.raw 1000000 (nNeg y)=true):PCall P 135 [x.c,y.c] (RN.c (nAdd x (nNeg y))):=
 pcallT (.r 5 (FNeg_r (y) s5_0) (.r 6 (FAdd_r (x) (nNeg y) s6_0 s6_1) (.c (lq 10 10) .nil))) (by kernel_rfl)
theorem gcd43_p1:PCall P 164 [ci64 4,ci64 3] (.lit (.int .i64 1)):=
 pcallT (.c (nz 3) (.c (nz 1) .nil)) (by kernel_rfl)
theorem i64a_p1:PCall P 217 [.agg [.lit (.bool false),.lit (.string {data:= #[(3:UInt8)]})]] (.tup [.lit (.int .i64 3),.lit (.bool true)]):=
 pcallT (.r 4 (Valid_spec (false) ({data:= #[(3:UInt8)]})) (.c (nn 8) (.c (bq 0 1) .nil))) (by kernel_rfl)
theorem i64b_p1:PCall P 217 [.agg [.lit (.bool false),.lit (.string {data:= #[(4:UInt8)]})]] (.tup [.lit (.int .i64 4),.lit (.bool true)]):=
 pcallT (.r 4 (Valid_spec (false) ({data:= #[(4:UInt8)]})) (.c (nn 8) (.c (bq 0 1) .nil))) (by kernel_rfl)
end Go.Fw
open Go
namespace Go.Fw
set_option maxRecDepth 100000
noncomputable def kN(x:K):RN:=ofO (toO (ofO (some x)))
theorem kN_eq(x:K):kN x= .ofK x:=by unfold kN;rw[toO_ofO];rfl
theorem WCosN(i:Int):PCall P 33 [ci64 i] (kN (cosK i)).c:=by rw[kN_eq];exact WCos_spec i
theorem WSinN(i:Int):PCall P 35 [ci64 i] (kN (sinK i)).c:=by rw[kN_eq];exact WSin_spec i
theorem toO_kN(x:K):toO (kN x)=some x:=by rw[kN_eq];exact toO_ofK x
theorem nMul_k(x y:K):nMul (kN x) (kN y)=kN (x*y):=by unfold nMul;rw[toO_kN,toO_kN,kN_eq];rfl
theorem nAdd_k(x y:K):nAdd (kN x) (kN y)=kN (x+y):=by unfold nAdd;rw[toO_kN,toO_kN,kN_eq];rfl
theorem nSub_k(x y:K):nSub (kN x) (kN y)=kN (x-y):=by unfold nSub;rw[toO_kN,toO_kN,kN_eq];rfl
theorem nNeg_k(x:K):nNeg (kN x)=kN (-x):=by unfold nNeg;rw[toO_kN,kN_eq];rfl
theorem nSgn_k(x:K):nSgn (kN x)=K.sgn x:=by unfold nSgn;rw[toO_kN]
theorem oN_k(n:Int):oN n=kN (K.ofInt n):=by rw[oN_eq,kN_eq]
theorem nDiv_k(x y:K)(h:K.sgn y≠0):(nDivE (kN x) (kN y)).1=kN (K.div x y):=by
 unfold nDivE
 rw[toO_kN,toO_kN]
 dsimp only
 rw[if_neg h,kN_eq]
end Go.Fw
open Go
namespace Go.Fw
set_option maxRecDepth 100000
theorem FSub_r(x y:RN)(hx:x.raw 1000000=true)(hy:y.raw 1000000=true):PCall P 135 [x.c,y.c] (nSub x y).c:=by
 have h:=fSb_p1 x y hy hx (raw_neg hy)
 have e:nAdd x (nNeg y)=nSub x y:=by unfold nAdd nSub;rw[toO_nNeg,sub_o]
 rw[e]at h
 exact h
def k34:K:=⟨3,0,0,0,4,by decide,by decide⟩
def k54:K:=⟨5,0,0,0,4,by decide,by decide⟩
theorem I64a:PCall P 217 [.agg [.lit (.bool (kN k34).b0),.lit (.string (kN k34).s0)]] (.tup [ci64 3,.lit (.bool true)]):=by
 rw[kN_eq,show(RN.ofK k34).s0=⟨#[3]⟩ by kernel_rfl]
 exact i64a_p1
theorem I64b:PCall P 217 [.agg [.lit (.bool (kN k34).b4),.lit (.string (kN k34).s4)]] (.tup [ci64 4,.lit (.bool true)]):=by
 rw[kN_eq,show(RN.ofK k34).s4=⟨#[4]⟩ by kernel_rfl]
 exact i64b_p1
end Go.Fw
open Go IntKind
namespace Go.Fw
set_option maxRecDepth 100000
theorem pos0_p1(x y:RN)(g1:(nSgn (nSub (nMul x (kN (sinK (0:Int)))) (nMul y (kN (cosK (0:Int)))))==0)=true)(g2:decide (nSgn (nAdd (nMul x (kN (cosK (0:Int)))) (nMul y (kN (sinK (0:Int)))))>0)=true)(s21_0:RN.raw 1000000 x=true)(s21_1:RN.raw 1000000 (kN (sinK (0:Int)))=true)(s24_0:RN.raw 1000000 y=true)(s24_1:RN.raw 1000000 (kN (cosK (0:Int)))=true)(s25_0:RN.raw 1000000 (nMul x (kN (sinK (0:Int))))=true)(s25_1:RN.raw 1000000 (nMul y (kN (cosK (0:Int))))=true)(s30_0:RN.raw 1000000 x=true)(s30_1:RN.raw 1000000 (kN (cosK (0:Int)))=true)(s33_0:RN.raw 1000000 y=true)(s33_1:RN.raw 1000000 (kN (sinK (0:Int)))=true)(s34_0:RN.raw 1000000 (nMul x (kN (cosK (0:Int))))=true)(s34_1:RN.raw 1000000 (nMul y (kN (sinK (0:Int))))=true)(s38_0:RN.raw 1000000 (nSub (nMul x (kN (sinK (0:Int)))) (nMul y (kN (cosK (0:Int)))))=true)(s42_0:RN.raw 1000000 (nAdd (nMul x (kN (cosK (0:Int)))) (nMul y (kN (sinK (0:Int)))))=true):PCall P 158 [x.c,y.c] (.tup [.lit (.int .i64 0),RN.c (nAdd (nMul x (kN (cosK (0:Int)))) (nMul y (kN (sinK (0:Int))))),.lit (.bool true)]):=
 pcallT (.r 12 (WCosN ((0:Int))) (.r 14 (WSinN ((0:Int))) (.c (lq 10 10) (.c (lq 10 10) (.r 21 (FMul_r (x) (kN (sinK (0:Int))) s21_0 s21_1) (.r 24 (FMul_r (y) (kN (cosK (0:Int))) s24_0 s24_1) (.r 25 (FSub_r (nMul x (kN (sinK (0:Int)))) (nMul y (kN (cosK (0:Int)))) s25_0 s25_1) (.c (lq 10 10) (.r 30 (FMul_r (x) (kN (cosK (0:Int))) s30_0 s30_1) (.r 33 (FMul_r (y) (kN (sinK (0:Int))) s33_0 s33_1) (.r 34 (FAdd_r (nMul x (kN (cosK (0:Int)))) (nMul y (kN (sinK (0:Int)))) s34_0 s34_1) (.c (lq 10 10) (.r 38 (FSign_r (nSub (nMul x (kN (sinK (0:Int)))) (nMul y (kN (cosK (0:Int))))) s38_0) (.b 40 g1 (.r 42 (FSign_r (nAdd (nMul x (kN (cosK (0:Int)))) (nMul y (kN (sinK (0:Int))))) s42_0) (.b 45 g2 (.c (lq 10 10) .nil))))))))))))))))) (by kernel_rfl)
theorem ratK_p1(x:K)(h1:((bytesOf x.c1.natAbs).toList==[])=true)(h2:((bytesOf x.c2.natAbs).toList==[])=true)(s3_0:Smk x):PCall P 218 [numC x] (.lit (.bool ((bytesOf x.c3.natAbs).toList==[]))):=
 pcallT (.r 3 (FValid_K (x) s3_0) (.c (bq 1 4) (.b 11 h1 (.c (bq 2 4) (.b 18 h2 (.c (bq 3 4) .nil)))))) (by kernel_rfl)
theorem vs0_p1:PCall P 81 [.agg [ci64 4,ci64 3,ci64 0]] (.lit (.bool true)):=
 pcallT (.r 29 (gcd43_p1) .nil) (by kernel_rfl)
end Go.Fw
open Go
namespace Go.Fw
set_option maxRecDepth 100000
theorem rdigits3:FCall P 195 [cstr (bytesOf 3)] (.sl 0 0 1 1) [ci64 3]:=digits_fresh (bytesOf 3) (by decide)
theorem rdigits5:FCall P 195 [cstr (bytesOf 5)] (.sl 0 0 1 1) [ci64 5]:=digits_fresh (bytesOf 5) (by decide)
theorem p3S:PCall P 183 [.agg [.lit (.bool false),cstr (bytesOf 3)]] (ci64 1):=RSign_spec 3
theorem p5S:PCall P 183 [.agg [.lit (.bool false),cstr (bytesOf 5)]] (ci64 1):=RSign_spec 5
theorem p3G:PCall P 184 [.agg [.lit (.bool false),cstr (bytesOf 3)],.agg [.lit (.bool false),cstr (bytesOf 4)]] (.agg [.lit (.bool false),cstr (bytesOf 1)]):=RGcd_s 3 4 (by decide) (by decide)
theorem p5G:PCall P 184 [.agg [.lit (.bool false),cstr (bytesOf 5)],.agg [.lit (.bool false),cstr (bytesOf 4)]] (.agg [.lit (.bool false),cstr (bytesOf 1)]):=RGcd_s 5 4 (by decide) (by decide)
theorem p3A:PCall P 186 [.agg [.lit (.bool false),cstr (bytesOf 3)]] (.agg [.lit (.bool false),cstr (bytesOf 3)]):=RAbs_spec 3
theorem p5A:PCall P 186 [.agg [.lit (.bool false),cstr (bytesOf 5)]] (.agg [.lit (.bool false),cstr (bytesOf 5)]):=RAbs_spec 5
theorem p3O:PCall P 185 [.agg [.lit (.bool false),cstr (bytesOf 3)],.agg [.lit (.bool false),cstr (bytesOf 1)]] (.agg [.lit (.bool false),cstr (bytesOf 3)]):=ROver_s 3 1 (by decide) (by decide) (by decide) (by decide)
theorem p5O:PCall P 185 [.agg [.lit (.bool false),cstr (bytesOf 5)],.agg [.lit (.bool false),cstr (bytesOf 1)]] (.agg [.lit (.bool false),cstr (bytesOf 5)]):=ROver_s 5 1 (by decide) (by decide) (by decide) (by decide)
end Go.Fw
open Go IntKind
namespace Go.Fw
set_option maxRecDepth 100000
theorem RPr3_p1:PCall P 187 [.agg [.lit (.bool false),cstr (bytesOf 3)]] (.lit (.string (Utf8.encode (51:Int)++{data:= #[]}))):=
 pcallT (.c (rValid_spec (false) (bytesOf 3)) (.c (rdigits3) (.c (bq 0 1) (.c (nz 10) (.c (bq 0 1) (.c (lq 1 1) (.c (nz 10) (.c (rtrim1) (.c (show BlksCv [some [.cv (.lit (.int .i64 0))],some [.cv (.lit (.int .i64 0))]]from(by simp[BlksCv,BlkCv])) (.c (show(1:Int)≤9223372036854775807 from by decide) (.o 3 (.r (.lit (.bool true))) (.o 14 (.f (.sl 0 0 1 1) [ci64 3]) (.o 56 (.m [2] (.sl 0 0 0 1) [some [.cv (ci64 0)]]) .nil))))))))))))) (by kernel_rfl)
theorem RPr5_p1:PCall P 187 [.agg [.lit (.bool false),cstr (bytesOf 5)]] (.lit (.string (Utf8.encode (53:Int)++{data:= #[]}))):=
 pcallT (.c (rValid_spec (false) (bytesOf 5)) (.c (rdigits5) (.c (bq 0 1) (.c (nz 10) (.c (bq 0 1) (.c (lq 1 1) (.c (nz 10) (.c (rtrim1) (.c (show BlksCv [some [.cv (.lit (.int .i64 0))],some [.cv (.lit (.int .i64 0))]]from(by simp[BlksCv,BlkCv])) (.c (show(1:Int)≤9223372036854775807 from by decide) (.o 3 (.r (.lit (.bool true))) (.o 14 (.f (.sl 0 0 1 1) [ci64 5]) (.o 56 (.m [2] (.sl 0 0 0 1) [some [.cv (ci64 0)]]) .nil))))))))))))) (by kernel_rfl)
theorem pR0_p1:PCall P 188 [ci64 0] (.lit (.string {data:= #[]})):=
 pcallT (.c (bq 0 4) .nil) (by kernel_rfl)
end Go.Fw
open Go
namespace Go.Fw
set_option maxRecDepth 100000
theorem p3P:PCall P 187 [.agg [.lit (.bool false),cstr (bytesOf 3)]] (cstr ⟨#[51]⟩):=RPr3_p1.eq (by kernel_rfl)
theorem p5P:PCall P 187 [.agg [.lit (.bool false),cstr (bytesOf 5)]] (cstr ⟨#[53]⟩):=RPr5_p1.eq (by kernel_rfl)
theorem sz34:k34.sz≤1000:=of_decide_eq_true (by kernel_rfl)
theorem sz54:k54.sz≤1000:=of_decide_eq_true (by kernel_rfl)
theorem p34V:PCall P 124 [n5C 3 0 0 0 4] (.lit (.bool true)):=RVal_K k34 (by have:=sz34;omega)
theorem p54V:PCall P 124 [n5C 5 0 0 0 4] (.lit (.bool true)):=RVal_K k54 (by have:=sz54;omega)
end Go.Fw
open Go
namespace Go.Fw
set_option maxRecDepth 100000
theorem raw_kN{x:K}{n:Nat}(h:x.sz≤n):(kN x).raw n=true:=by rw[kN_eq];exact RN.ofK_raw x h
theorem raw_oN{z:Int}{n:Nat}(h:(K.ofInt z).sz≤n):(oN z).raw n=true:=by rw[oN_k];exact raw_kN h
theorem sz_c0:(cosK 0).sz≤10:=of_decide_eq_true (by kernel_rfl)
theorem sz_s0:(sinK 0).sz≤10:=of_decide_eq_true (by kernel_rfl)
theorem sz_0:(K.ofInt 0).sz≤10:=of_decide_eq_true (by kernel_rfl)
theorem sz_1:(K.ofInt 1).sz≤10:=of_decide_eq_true (by kernel_rfl)
theorem sz_3:(K.ofInt 3).sz≤10:=of_decide_eq_true (by kernel_rfl)
theorem sz_4:(K.ofInt 4).sz≤10:=of_decide_eq_true (by kernel_rfl)
theorem sz_5:(K.ofInt 5).sz≤10:=of_decide_eq_true (by kernel_rfl)
theorem Rat34:PCall P 218 [(kN k34).c] (.lit (.bool true)):=by
 have h:=ratK_p1 k34 (by kernel_rfl) (by kernel_rfl) (by have:=sz34;simp only[Smk];omega)
 rw[show((bytesOf k34.c3.natAbs).toList==[])=true by kernel_rfl]at h
 rw[kN_eq]
 exact h
theorem Quo34:PCall P 156 [(kN k34).c,(oN 1).c] (kN k34).c:=by
 have h:=FQuo_r (kN k34) (oN 1) (raw_kN (Nat.le_trans sz34 (by decide))) (raw_oN (Nat.le_trans sz_1 (by decide)))
 rw[oN_k,nDiv_k _ _ (by rw[show K.sgn (K.ofInt 1)=1 by kernel_rfl];decide),show K.div k34 (K.ofInt 1)=k34 by kernel_rfl]at h
 rw[oN_k];exact h
theorem Mul54:PCall P 136 [(kN k54).c,(oN 4).c] (oN 5).c:=by
 have h:=FMul_r (kN k54) (oN 4) (raw_kN (Nat.le_trans sz54 (by decide))) (raw_oN (Nat.le_trans sz_4 (by decide)))
 rw[oN_k,nMul_k,show k54*K.ofInt 4=K.ofInt 5 by kernel_rfl,←oN_k,←oN_k]at h
 exact h
theorem Quo5:PCall P 156 [(oN 5).c,(oN 1).c] (oN 5).c:=by
 have h:=FQuo_r (oN 5) (oN 1) (raw_oN (Nat.le_trans sz_5 (by decide))) (raw_oN (Nat.le_trans sz_1 (by decide)))
 rw[oN_k,oN_k,nDiv_k _ _ (by rw[show K.sgn (K.ofInt 1)=1 by kernel_rfl];decide),show K.div (K.ofInt 5) (K.ofInt 1)=K.ofInt 5 by kernel_rfl]at h
 rw[oN_k,oN_k];exact h
theorem Mul41:PCall P 136 [(oN 4).c,(kN (cosK 0)).c] (oN 4).c:=by
 have h:=FMul_r (oN 4) (kN (cosK 0)) (raw_oN (Nat.le_trans sz_4 (by decide))) (raw_kN (Nat.le_trans sz_c0 (by decide)))
 rw[oN_k,nMul_k,show K.ofInt 4*cosK 0=K.ofInt 4 by kernel_rfl,←oN_k]at h
 exact h
theorem Mul40:PCall P 136 [(oN 4).c,(kN (sinK 0)).c] (oN 0).c:=by
 have h:=FMul_r (oN 4) (kN (sinK 0)) (raw_oN (Nat.le_trans sz_4 (by decide))) (raw_kN (Nat.le_trans sz_s0 (by decide)))
 rw[oN_k,nMul_k,show K.ofInt 4*sinK 0=K.ofInt 0 by kernel_rfl,←oN_k,←oN_k]at h
 exact h
theorem pos_al:nAdd (nMul (oN 1) (kN (cosK 0))) (nMul (oN 0) (kN (sinK 0)))=oN 1:=by
 rw[oN_k,oN_k,nMul_k,nMul_k,nAdd_k,show K.ofInt 1*cosK 0+K.ofInt 0*sinK 0=K.ofInt 1 by kernel_rfl]
theorem pos_ac:nSub (nMul (oN 1) (kN (sinK 0))) (nMul (oN 0) (kN (cosK 0)))=oN 0:=by
 rw[oN_k,oN_k,nMul_k,nMul_k,nSub_k,show K.ofInt 1*sinK 0-K.ofInt 0*cosK 0=K.ofInt 0 by kernel_rfl]
theorem sg_o(z:Int):nSgn (oN z)=K.sgn (K.ofInt z):=by rw[oN_k,nSgn_k]
theorem Pos10:PCall P 158 [(oN 1).c,(oN 0).c] (.tup [ci64 0,(oN 1).c,.lit (.bool true)]):=by
 have r1:=raw_oN (n:=10) sz_1
 have r0:=raw_oN (n:=10) sz_0
 have c:=raw_kN (n:=10) sz_c0
 have s:=raw_kN (n:=10) sz_s0
 have big: ∀{x:RN} {n:Nat},x.raw n=true→n≤1000000→x.raw 1000000=true:=fun h hn=>RN.raw_mono h hn
 have h:=pos0_p1 (oN 1) (oN 0) (by rw[pos_ac,sg_o];kernel_rfl) (by rw[pos_al,sg_o];kernel_rfl) (big r1 (by decide)) (big s (by decide)) (big r0 (by decide)) (big c (by decide)) (big (raw_mul r1 s) (by decide)) (big (raw_mul r0 c) (by decide))
  (big r1 (by decide)) (big c (by decide)) (big r0 (by decide)) (big s (by decide)) (big (raw_mul r1 c) (by decide)) (big (raw_mul r0 s) (by decide)) (by rw[pos_ac];exact big r0 (by decide)) (by rw[pos_al];exact big r1 (by decide))
 rw[pos_al]at h
 exact h
noncomputable def aP:PN:=⟨⟨oN 4,oN 0,oN 3⟩,oN 5⟩
noncomputable def cP:PN:=⟨⟨oN 1,oN 0,kN k34⟩,kN k54⟩
end Go.Fw
open Go IntKind
namespace Go.Fw
set_option maxRecDepth 100000
theorem sm0_p1:PCall P 159 [(kN k34).c] (.tup [.lit (.int .i64 3),.lit (.int .i64 4),.lit (.bool true)]):=
 pcallT (.c (bq 0 4) (.r 7 (I64a) (.r 15 (I64b) (.r 29 (Rat34) .nil)))) (by kernel_rfl)
theorem pOf0_p1(h1:((oN (5:Int)).ok)=true)(s5_0:RN.raw 1000000 (oN (5:Int))=true)(s16_0:(-9223372036854775808:Int)≤4∧(4:Int)≤9223372036854775807)(s31_0:(-9223372036854775808:Int)≤3∧(3:Int)≤9223372036854775807):PCall P 75 [.agg [ci64 4,ci64 3,ci64 0],(oN (5:Int)).c] (.tup [plR (oN (4:Int)) (oN (0:Int)) (oN (3:Int)) (oN (5:Int)),.lit (.int .i64 0)]):=
 pcallT (.r 5 ((FVal_c (oN (5:Int)) s5_0).eqB h1) (.r 10 (vs0_p1) (.r 16 (FOf_r ((4:Int)) s16_0) (.c (lq 10 10) (.r 22 (WCosN ((0:Int))) (.r 23 (Mul41) (.r 27 (WSinN ((0:Int))) (.r 28 (Mul40) (.r 31 (FOf_r ((3:Int)) s31_0) (.c (lq 30 30) (.c (lq 40 40) .nil))))))))))) (by kernel_rfl)
end Go.Fw
open Go
namespace Go.Fw
set_option maxRecDepth 100000
theorem oV_x(a b c:Int):(oV a b c).x=oN a:=by rw[oV_eq,oN_eq];rfl
theorem oV_y(a b c:Int):(oV a b c).y=oN b:=by rw[oV_eq,oN_eq];rfl
theorem oV_z(a b c:Int):(oV a b c).z=oN c:=by rw[oV_eq,oN_eq];rfl
theorem kN_inj{x y:K}(h:kN x=kN y):x=y:=by
 have:=toO_kN x
 rw[h,toO_kN]at this
 injection this with e
 exact e.symm
theorem kN_ok(x:K):(kN x).ok=true:=by rw[kN_eq];exact RN.ofK_ok x
theorem oN_ok(z:Int):(oN z).ok=true:=by rw[oN_k];exact kN_ok _
theorem rnB_k(x y:K):rnB (kN x) (kN y)=true↔x=y:=by rw[rnB_iff];exact⟨kN_inj,fun h=>by rw[h]⟩
theorem one_zero:rnB (oN 1) (oN 0)=false:=by
 cases h:rnB (oN 1) (oN 0)
 · rfl
 · rw[oN_k,oN_k,rnB_k]at h
   have:(K.ofInt 1).c0=(K.ofInt 0).c0:=by rw[h]
   exact absurd this (by decide)
theorem four_zero:rnB (oN 4) (oN 0)=false:=by
 cases h:rnB (oN 4) (oN 0)
 · rfl
 · rw[oN_k,oN_k,rnB_k]at h
   have:(K.ofInt 4).c0=(K.ofInt 0).c0:=by rw[h]
   exact absurd this (by decide)
theorem aP_ok:aP.ok=true:=by
 unfold PN.ok zV aP
 rw[oV_x]
 unfold VN.ok ok3
 rw[oN_ok,oN_ok,oN_ok,oN_ok,four_zero];rfl
theorem cP_ok:cP.ok=true:=by
 unfold PN.ok zV cP
 rw[oV_x]
 unfold VN.ok ok3
 rw[oN_ok,oN_ok,kN_ok,kN_ok,one_zero];rfl
theorem aP_raw:aP.raw 10=true:=PN.raw_iff.2 ⟨raw3_iff.2 ⟨raw_oN sz_4,raw_oN sz_0,raw_oN sz_3⟩,raw_oN sz_5⟩
theorem cP_raw:cP.raw 1000=true:=PN.raw_iff.2 ⟨raw3_iff.2 ⟨raw_oN (Nat.le_trans sz_1 (by decide)),raw_oN (Nat.le_trans sz_0 (by decide)),raw_kN sz34⟩,raw_kN sz54⟩
theorem PN.raw_mono{p:PN}{n m:Nat}(h:p.raw n=true)(hm:n≤m):p.raw m=true:=by
 obtain⟨a,b⟩:=PN.raw_iff.1 h
 exact PN.raw_iff.2 ⟨VN.raw_mono a hm,RN.raw_mono b hm⟩
theorem PValC:PCall P 79 [cP.c] (.lit (.bool true)):=(PVal_r cP (PN.raw_mono cP_raw (by decide))).eqB cP_ok
theorem one_t:rnB (oN 1) (oN 1)=true:=rnB_iff.2 rfl
end Go.Fw
open Go IntKind
namespace Go.Fw
set_option maxRecDepth 100000
theorem set0_p3(_g1:rnB (oN (1:Int)) (oN (0:Int))=false)(h1:(rnB cP.n.x (oN (0:Int)))=false)(s11_0:RN.raw 1000000 cP.n.z=true)(s16_0:(-9223372036854775808:Int)≤0∧(0:Int)≤9223372036854775807)(s67_0:(-9223372036854775808:Int)≤4∧(4:Int)≤9223372036854775807):PCall P 77 [cP.c] (.tup [.agg [.lit (.int .i64 4),.lit (.int .i64 3),.lit (.int .i64 0)],RN.c (oN (5:Int)),.lit (.int .i64 0)]):=
 pcallT (.r 5 (PValC) (.r 11 (FSign_r (cP.n.z) s11_0) (.r 16 (FOf_r ((0:Int)) s16_0) (.b 18 h1 (.r 32 (Pos10) (.c (lq 10 10) (.r 48 (Quo34) (.r 49 (sm0_p1) (.r 67 (FOf_r ((4:Int)) s67_0) (.r 68 (Mul54) (.r 70 (Quo5) (.c (lq 3 3) (.c (lq 10 10) .nil))))))))))))) (by kernel_rfl)
end Go.Fw
namespace Go.Fw
section
variable{P:Program}{w0:Start}{ops:List Oper}{base:Nat}
theorem wpOp_in {Q : Exit → Act → World → Prop} (hlo : ¬ LetsOut Q) {ops : Array Oper} (hnd : ops.toList.all (fun o => match o.op with | .defer _ => false | _ => true) = true) {l m i : Nat} {K K' : Act → World → Prop} {a : Act} {w : World}
    (hK: ∀a w,K a w→K' a w) (h:wpOp P ops Q i K a w):wpOpIn (Fence.wide.inRound l) m P ops Q i K' a w:=by
 unfold wpOp at h
 unfold wpOpIn
 cases ho:ops[i]? with
 |none=>rw[ho]at h;exact hK _ _ h
 |some o=>
  rw[ho]at h
  dsimp only at h ⊢
  split
  · rename_i hw
    rw[if_pos hw]at h
    have h:=h.resolve_right (fun k=>hlo k.2)
    have hd: ∀c,o.op≠ .defer c:=by
     intro c hc
     have:=List.all_eq_true.1 hnd o (Array.mem_toList_iff.2 (Array.mem_of_getElem? ho))
     rw[hc]at this;cases this
    refine⟨fun _ _=>trivial,?_⟩
    rw[Oper.semAt_eq _ _ _ hd]
    unfold Oper.wp at h
    generalize (execOp a.eval o).run P w=r at*
    have nd:(Fence.wide.inRound l).depth.isSome=true→1≤m:=fun h=>by cases h
    cases r with
    |ok x w'=>
     cases x with
     |value v=>exact hK _ _ h
     |skip=>exact hK _ _ h
     |defer d=>exact hK _ _ h
     |enter f args=>
      refine⟨nd,CallsIn.inRound l (callsIn_wide.2 (Calls.mono h ?_))⟩
      intro e w2 he
      cases e with
      |returned v=>exact hK _ _ he
      |panicked c=>exact he
      |outgrown=>exact he
     |row row args=>exact⟨nd,fun c cs _=>let⟨v,w2,r,st⟩:=h c cs;⟨v,w2,hK _ _ r,stepsIn_wide.2 st⟩⟩
     |_=>exact h.elim
    |halt x w'=>cases x<;>first|exact h|exact h.elim
  · rename_i hw
    rw[if_neg hw]at h
    exact⟨fun _ _=>trivial,hK _ _ h⟩
theorem wpOps_in {Q : Exit → Act → World → Prop} (hlo : ¬ LetsOut Q) {ops : Array Oper} (hnd : ops.toList.all (fun o => match o.op with | .defer _ => false | _ => true) = true) {l m : Nat} :
    ∀(is:List Nat) (a:Act) (w:World),wpOps P ops Q is a w→wpOpsIn (Fence.wide.inRound l) m P ops Q is a w
 | [],_,_,h=>h
 |i::is,a,w,h=>by
  rw[wpOpsIn_cons]
  rw[wpOps_cons]at h
  exact wpOp_in hlo hnd (fun a w=>wpOps_in hlo hnd is a w) h
theorem wpAny_in {Q : Exit → Act → World → Prop} (hlo : ¬ LetsOut Q) {ops : Array Oper} (hnd : ops.toList.all (fun o => match o.op with | .defer _ => false | _ => true) = true) {l m : Nat} {md : Region.Mode} :
    ∀(fuel:Nat) (li:Array Bool) (a:Act) (w:World),wpAny P md ops Q fuel li a w→wpAnyIn (Fence.wide.inRound l) m P md ops Q fuel li a w
 |0,_,_,_,h=>h
 |fuel+1,_,_,_,h=>⟨h.1,fun i hi=>wpOp_in hlo hnd (fun a w=>wpAny_in hlo hnd fuel _ a w) (h.2 i hi)⟩
theorem notOut(w0:Start)(s':St)(I:Imm)(p:Pl): ¬LetsOut (RegPost w0 s' I p):=fun⟨_,_,h⟩=>by
 cases h.1
theorem region_soundR {ra : Array Oper} {id l0 m : Nat} {draw ask : Bool} {n n' : Nat} {ors ors' : Ors} {s s' : St} {ob : List Prop} {es : List (Nat × Option Eff)} {a : Act} {w : World} {I : Imm} {p : Pl}
    (h:mOps P ra.toList s.hp.length ask (List.range ra.size) n ors {s with hp:=s.hp++List.replicate (slotOf ra.toList ra.size) none} [] []= .ok n' ors' s' ob es)
    (hd:draw=true→(drawOk s.hp.length ra.toList es&&edgesBack 0 ra.toList&&P.follows .mixedOrders)=true) (hnd:ra.toList.all (fun o=>match o.op with| .defer _=>false|_=>true)=true) (hob: ∀q∈ob,q) (R:SRel w0 s I p a w) (hB:Beyond s p):
    (Code.region id ra draw).wpIn (Fence.wide.inRound l0) m P (RegPost w0 s' I p) a w:=by
 obtain⟨A,E,he,hc,_,hobs⟩:=mOps_chain _ _ _ _ _ _ _ _ _ _ _ h List.nodup_range
 simp only[List.reverse_nil,List.nil_append]at he
 have R1:SRel w0 {s with hp:=s.hp++List.replicate (slotOf ra.toList ra.size) none} I p a w:=⟨R.tm,R.defers,R.hp.more _⟩
 have hall:slotOf ra.toList ra.size=slotOf ra.toList ra.toList.length:=by simp
 have hsl:SlotsOk ra.toList s.hp.length (List.range ra.size) (s.hp++List.replicate (slotOf ra.toList ra.size) none) p:=by
  intro i hi o ho ha
  have hlt:i<ra.toList.length:=(List.getElem?_eq_some_iff.1 ho).1
  have h1:=slotOf_succ ho ha
  have h2:=slotOf_mono (ops:=ra.toList) (show i+1≤ra.toList.length from hlt)
  refine⟨?_,hB _ (by simp)⟩
  rw[List.getElem?_append_right (by omega),List.getElem?_replicate,if_pos (by rw[hall];omega)]
 have hQ : ∀ a' w' I' p', I.le I' → SRel w0 s' I' p' a' w' → OffSlots ra.toList s.hp.length p p' →
     RegPost w0 s' I p .normal a' w':=by
  intro a' w' I' p' k1 k2 k3
  have hpp:p.le p':=by
   intro k x hx
   rw[k3 k]
   · exact hx
   · intro j o hj ha e
     have:p k=none:=hB k (by omega)
     rw[this]at hx;cases hx
  refine⟨rfl,I',p',k1,k2,fun k hk=>?_,hpp⟩
  have hlen:=chain_length _ _ _ hc
  simp only[List.length_append,List.length_replicate]at hlen
  rw[k3 k]
  · exact hB k (by omega)
  · intro j o hj ha e
    have hlt:j<ra.toList.length:=(List.getElem?_eq_some_iff.1 hj).1
    have h1:=slotOf_succ hj ha
    have h2:=slotOf_mono (ops:=ra.toList) (show j+1≤ra.toList.length from hlt)
    rw[hall]at hlen
    omega
 have hobs': ∀i∈List.range ra.size,∀e,E i=some e→ ∀q∈e.ob,q:=fun i hi e he q hq=>hob q (hobs i hi e he q hq)
 cases draw with
 |false=>
  refine wpIn_region (wpOps_in (notOut _ _ _ _) hnd _ _ _ ?_)
  have:=chain_sound (P:=P) (w0:=w0) (Q:=RegPost w0 s' I p) (List.range ra.size) _ a w I p hc List.nodup_range hobs' R1 hsl hQ
  simpa using this
 |true=>
  have hd':=hd rfl
  simp only[Bool.and_eq_true]at hd'
  obtain⟨⟨hd1,hd2⟩,hd3⟩:=hd'
  refine wpIn_region_any hd3 (wpAny_in (notOut _ _ _ _) hnd _ _ _ _ ?_)
  rw[he]at hd1
  have hpw:=pairwise_range (drawOk_spec _ hd1)
  have hrem:rem ra.toList (Array.replicate ra.size false)=List.range ra.size:=by
   unfold rem
   simp only[Array.length_toList]
   apply List.filter_eq_self.2
   intro i hi
   simp at hi
   simp[hi]
  have R2:SRel w0 {s with hp:=s.hp++List.replicate (slotOf ra.toList ra.size) none} I p a {w with drawn:=w.drawn+1}:=⟨R1.tm,R1.defers,R1.hp.drew⟩
  have:=any_sound (P:=P) (w0:=w0) (s':=s') (Q:=RegPost w0 s' I p) hd2 (fun i j hij hj=>hpw i j hij (by simpa using hj)) ra.size (Array.replicate ra.size false) _ a {w with drawn:=w.drawn+1} I p
   (by rw[hrem];simp) (by rw[hrem];exact hc) (by rw[hrem];exact hobs') R2 (by rw[hrem];exact hsl) hQ
  simpa using this
end
end Go.Fw
open Go
namespace Go.Fw
set_option maxRecDepth 100000
def regOf(id:Nat):Code→Option (Array Oper)
 | .region i ops _=>if i=id then some ops else none
 | .seq a b=>match regOf id a with|some x=>some x|none=>regOf id b
 | .block _ c=>regOf id c
 | .loop c=>regOf id c
 | .cond _ a b=>match regOf id a with|some x=>some x|none=>regOf id b
 | .rangeFunc _ _ a b=>match regOf id a with|some x=>some x|none=>regOf id b
 |_=>none
def regF(P:Program)(f:FuncId)(id:Nat):Array Oper:=match P.funcs[f]? with
 |some fn=>match fn.body with|some c=>(regOf id c).getD #[]|none=> #[]
 |none=> #[]
def regX(P:Program)(ra:Array Oper)(ors:Ors)(s:St):Option (St×List Prop×Bool):=
 match mOps P ra.toList s.hp.length false (List.range ra.size) 0 ors {s with hp:=s.hp++List.replicate (slotOf ra.toList ra.size) none} [] []with
 | .ok _ _ s' ob es=>some (s',ob,drawOk s.hp.length ra.toList es&&edgesBack 0 ra.toList&&P.follows .mixedOrders)
 | .bad .. =>none
def can0(p:PN)(x:RN):St:=⟨[.unk,.ptr 0 0,.ptr 1 0,.ptr 2 0,.ptr 3 0]++List.replicate 26 .unk,[some (own (p.n.x.l++(p.n.y.l++(p.n.z.l++p.d.l)))),some (own (RN.zero.l++(RN.zero.l++(RN.zero.l++RN.zero.l)))),some (own [ci64 0]),some (own x.l)]⟩
noncomputable def can6(p:PN)(x:RN):St×List Prop×Bool:=(regX P (regF P 91 6) [(0,.r (oN 1).c),(2,.r (nAbs x).c),(3,.r (canK x).c)] (can0 p x)).getD (⟨[],[]⟩,[],false)
noncomputable def can7(p:PN)(x:RN):St×List Prop×Bool:=(regX P (regF P 91 7) [(3,.r (wScale p.n (canK x)).c),(7,.r (nMul p.d (canK x)).c)] (can6 p x).1).getD (⟨[],[]⟩,[],false)
end Go.Fw
open Go Go.RowKit
namespace Go.Fw
set_option maxRecDepth 100000
theorem regX_sound {P : Program} {w0 : Start} {ra : Array Oper} {id l0 m : Nat} {ors : Ors} {s s' : St} {ob : List Prop} {a : Act} {w : World} {I : Imm} {p : Pl}
    (h:regX P ra ors s=some (s',ob,true)) (hnd:ra.toList.all (fun o=>match o.op with| .defer _=>false|_=>true)=true) (hob: ∀q∈ob,q) (R:SRel w0 s I p a w) (hB:Beyond s p):
    (Code.region id ra true).wpIn (Fence.wide.inRound l0) m P (RegPost w0 s' I p) a w:=by
 unfold regX at h
 split at h
 · rename_i h1
   injection h with h
   injection h with e1 h
   injection h with e2 e3
   subst e1 e2
   exact region_soundR h1 (fun _=>e3) hnd hob R hB
 · cases h
theorem getD_eq{o:Option (St×List Prop×Bool)}{d v:St×List Prop×Bool}(hv:v=o.getD d)(h:o.isSome=true)(h2:v.2.2=true):o=some (v.1,v.2.1,true):=by
 cases o with
 |none=>cases h
 |some x=>
  rw[hv,show(some x).getD d=x from rfl]at h2 ⊢
  rw[←h2]
theorem can6_eq(p:PN)(x:RN):regX P (regF P 91 6) [(0,.r (oN 1).c),(2,.r (nAbs x).c),(3,.r (canK x).c)] (can0 p x)=some ((can6 p x).1,(can6 p x).2.1,true):=getD_eq (d:=(⟨[],[]⟩,[],false)) (v:=can6 p x) (by kernel_rfl) (by kernel_rfl) (by kernel_rfl)
theorem can7_eq(p:PN)(x:RN):regX P (regF P 91 7) [(3,.r (wScale p.n (canK x)).c),(7,.r (nMul p.d (canK x)).c)] (can6 p x).1=some ((can7 p x).1,(can7 p x).2.1,true):=getD_eq (d:=(⟨[],[]⟩,[],false)) (v:=can7 p x) (by kernel_rfl) (by kernel_rfl) (by kernel_rfl)
theorem can6_ob(p:PN)(x:RN):(can6 p x).2.1=[PCall P 144 [ci64 1] (oN 1).c,PCall P 157 [x.c] (nAbs x).c,PCall P 156 [(oN 1).c,(nAbs x).c] (canK x).c,10≤10]:=by kernel_rfl
theorem can7_ob(p:PN)(x:RN):(can7 p x).2.1=[PCall P 142 [p.n.c,(canK x).c] (wScale p.n (canK x)).c,PCall P 136 [p.d.c,(canK x).c] (nMul p.d (canK x)).c,40≤40,1≤1]:=by kernel_rfl
theorem can7_c(p:PN)(x:RN):(can7 p x).1.hp[2]?=some (some (own [ci64 0])):=by kernel_rfl
theorem can7_b(p:PN)(x:RN):(can7 p x).1.hp[1]?=some (some (own ((canBy p x).n.x.l++((canBy p x).n.y.l++((canBy p x).n.z.l++(canBy p x).d.l))))):=by kernel_rfl
def PN.a(p:PN):Array Value:=p.n.x.a++(p.n.y.a++(p.n.z.a++p.d.a))
theorem l_map(x:RN):x.l=x.a.toList.map .lit:=rfl
theorem pn_map(p:PN):p.n.x.l++(p.n.y.l++(p.n.z.l++p.d.l))=p.a.toList.map .lit:=by
 unfold PN.a
 rw[Array.toList_append,Array.toList_append,Array.toList_append,List.map_append,List.map_append,List.map_append,Go.Fw.l_map,Go.Fw.l_map,Go.Fw.l_map,Go.Fw.l_map]
theorem own_rep{I:Imm}{q:Pl}(l:List Value):MV.repL I q (own (l.map .lit)) l:=by
 unfold own
 rw[MV.repL_map_cv]
 exact repL_lits' I l
end Go.Fw
open Go Go.RowKit
namespace Go.Fw
set_option maxRecDepth 100000
theorem raw_div{x y:RN}{n:Nat}(hx:x.raw n=true)(hy:y.raw n=true):(nDivE x y).1.raw (8*n+7)=true:=by
 have h1:=osz_toO hx
 have h2:=osz_toO hy
 unfold nDivE
 cases ex:toO x with
 |none=>exact ofO_raw (o:=none) (Nat.zero_le _)
 |some a=>
  cases ey:toO y with
  |none=>exact ofO_raw (o:=none) (Nat.zero_le _)
  |some b=>
   rw[ex]at h1
   rw[ey]at h2
   dsimp only
   split
   · exact ofO_raw (o:=none) (Nat.zero_le _)
   · have:=K.sz_div a b
     refine RN.ofK_raw _ ?_
     have h1:a.sz≤n:=h1
     have h2:b.sz≤n:=h2
     omega
theorem raw_abs{x:RN}{n:Nat}(hx:x.raw n=true):(nAbs x).raw n=true:=by
 unfold nAbs
 split
 · exact raw_neg hx
 · exact raw_neg (raw_neg hx)
theorem raw_one:(oN 1).raw 1=true:=by rw[oN_eq];kernel_rfl
theorem raw_canK{x:RN}(hx:x.raw 1000=true):(canK x).raw 10000=true:=RN.raw_mono (raw_div (RN.raw_mono raw_one (by decide)) (raw_abs hx)) (by decide)
theorem can_ob{p:PN}{x:RN}(hp:p.raw 1000=true)(hx:x.raw 1000=true):(∀q∈(can6 p x).2.1,q)∧ ∀q∈(can7 p x).2.1,q:=by
 obtain⟨hn,hd⟩:=PN.raw_iff.1 hp
 have k:=RN.raw_mono (raw_canK hx) (show 10000≤1000000 by decide)
 have x1:=RN.raw_mono hx (show 1000≤1000000 by decide)
 rw[can6_ob,can7_ob]
 constructor
 · intro q hq
   simp only[List.mem_cons,List.not_mem_nil,or_false]at hq
   rcases hq with rfl|rfl|rfl|rfl
   · exact FOf_r 1 (by decide)
   · exact FAbs_r x x1
   · exact FQuo_r _ _ (RN.raw_mono raw_one (by decide)) (raw_abs x1)
   · decide
 · intro q hq
   simp only[List.mem_cons,List.not_mem_nil,or_false]at hq
   rcases hq with rfl|rfl|rfl|rfl
   · exact VScale_r _ _ (VN.raw_mono hn (by decide)) k
   · exact FMul_r _ _ (RN.raw_mono hd (by decide)) k
   · decide
   · decide
def lend4(b0 b1 b2 b3:Nat):Pl:=fun k=>if k=0 then some (b0,40)else if k=1 then some (b1,40)else if k=2 then some (b2,1)else if k=3 then some (b3,10)else none
theorem lend4_some{b0 b1 b2 b3 i b κ:Nat}(h:lend4 b0 b1 b2 b3 i=some (b,κ)):i=0∧b=b0∨i=1∧b=b1∨i=2∧b=b2∨i=3∧b=b3:=by
 unfold lend4 at h
 split at h
 · cases h;exact .inl ⟨by assumption,rfl⟩
 · split at h
   · cases h;exact .inr (.inl ⟨by assumption,rfl⟩)
   · split at h
     · cases h;exact .inr (.inr (.inl ⟨by assumption,rfl⟩))
     · split at h
       · cases h;exact .inr (.inr (.inr ⟨by assumption,rfl⟩))
       · cases h
theorem unkR{I:Imm}{q:Pl}: ∀(n:Nat) (l:List Value),l.length=n→MV.repL I q (List.replicate n .unk) l
 |0,l,h=>List.eq_nil_of_length_eq_zero h
 |n+1,[],h=>by cases h
 |n+1,x::xs,h=>⟨x,xs,rfl,trivial,unkR n xs (by simpa using h)⟩
theorem PN.a_size(p:PN):p.a.size=40:=by
 unfold PN.a
 rw[Array.size_append,Array.size_append,Array.size_append];rfl
theorem own_eq{I:Imm}{q:Pl}{c v:Array Value}{l:List CV}(hl:l=v.toList.map .lit)(hs:c.size=v.size)(h:MV.repL I q (own l) (c.toList.take (own l).length)):c=v:=by
 subst hl
 rw[List.take_of_length_le (by unfold own;simp;omega)]at h
 unfold own at h
 rw[MV.repL_map_cv]at h
 exact Array.ext' (repL_lits_eq h)
theorem can_round (p : PN) (x : RN) (hp : p.raw 1000 = true) (hx : x.raw 1000 = true) {l m : Nat} (W : World) (b0 b1 b2 bx : Nat) (h01 : b0 < b1) (h12 : b1 < b2) (h2x : b2 < bx)
    (H0:W.heap[b0]?=some (.cells p.a 99 (0,0))) (H1:W.heap[b1]?=some (.cells PN.zero.a 99 (0,0))) (H2:W.heap[b2]?=some (.cells #[.int .i64 0] 24 (0,0))) (Hx:W.heap[bx]?=some (.cells x.a 39 (0,0)))
    (a:Act) (t:Value) (ts:List Value) (ha:a.tmps.toList=t:: .pointer (some ⟨b0,0,none⟩):: .pointer (some ⟨b1,0,none⟩):: .pointer (some ⟨b2,0,none⟩):: .pointer (some ⟨bx,0,none⟩)::ts) (hts:ts.length=26) (hd:a.defers=[]):
    (Code.region 6 (regF P 91 6) true).wpIn (Fence.wide.inRound l) m P (fun e a1 W1=>e= .normal∧(Code.region 7 (regF P 91 7) true).wpIn (Fence.wide.inRound l) m P (fun e a2 W2=>e= .normal∧a2.defers=[]∧
     Below b0 W W2∧(∀B,KeepsFrom B W W2)∧(∃T,W2.heap[b1]?=some (.cells (canBy p x).a T (0,0)))∧ ∃T,W2.heap[b2]?=some (.cells #[.int .i64 0] T (0,0))) a1 W1) a W:=by
 obtain⟨o6,o7⟩:=can_ob hp hx
 have hlt:=(Array.getElem?_eq_some_iff.1 Hx).1
 have own: ∀(v:Array Value) {c:List CV},c=v.toList.map .lit→MV.repL (fun _=>none) (lend4 b0 b1 b2 bx) (own c) (v.toList.take (Go.Fw.own c).length):=by
  intro v c hc
  rw[hc,List.take_of_length_le (by unfold Go.Fw.own;simp)]
  exact own_rep _
 have R:SRel ⟨W,fun _=>none,lend4 b0 b1 b2 bx⟩ (can0 p x) (fun _=>none) (lend4 b0 b1 b2 bx) a W:=by
  refine⟨?_,hd,⟨rfl,rfl,rfl,Nat.le_refl _,fun _ _=>rfl⟩,(fun b cs hb=>by cases hb),(fun b hb=>(hb rfl).elim),?_,?_⟩
  · rw[ha]
    exact⟨_,_,rfl,trivial,_,_,rfl,⟨b0,40,rfl,rfl⟩,_,_,rfl,⟨b1,40,rfl,rfl⟩,_,_,rfl,⟨b2,1,rfl,rfl⟩,_,_,rfl,⟨bx,10,rfl,rfl⟩,unkR 26 ts hts⟩
  · intro i cells hi
    match i,hi with
    |0,hi=>cases hi;exact⟨b0,40,_,_,rfl,H0,PN.a_size p,own p.a (pn_map p),.inr ⟨0,40,rfl⟩,rfl⟩
    |1,hi=>cases hi;exact⟨b1,40,_,_,rfl,H1,PN.a_size .zero,own PN.zero.a (pn_map .zero),.inr ⟨1,40,rfl⟩,rfl⟩
    |2,hi=>cases hi;exact⟨b2,1,_,_,rfl,H2,rfl,own #[.int .i64 0] rfl,.inr ⟨2,1,rfl⟩,rfl⟩
    |3,hi=>cases hi;exact⟨bx,10,_,_,rfl,Hx,rfl,own x.a rfl,.inr ⟨3,10,rfl⟩,rfl⟩
    |k+4,hi=>cases hi
  · intro i j ci cj b κ b' κ' _ _ hne h1 h2
    rcases lend4_some h1 with⟨e,rfl⟩|⟨e,rfl⟩|⟨e,rfl⟩|⟨e,rfl⟩<;>rcases lend4_some h2 with⟨e',rfl⟩|⟨e',rfl⟩|⟨e',rfl⟩|⟨e',rfl⟩<;>omega
 have B:Beyond (can0 p x) (lend4 b0 b1 b2 bx):=by
  intro k hk
  have:4≤k:=hk
  unfold lend4
  rw[if_neg (by omega),if_neg (by omega),if_neg (by omega),if_neg (by omega)]
 refine wpIn_mono (regX_sound (can6_eq p x) (by kernel_rfl) o6 R B) ?_
 rintro e a1 W1 ⟨rfl,I1,p1,hI1,R1,B1,hp1⟩
 refine⟨rfl,wpIn_mono (regX_sound (can7_eq p x) (by kernel_rfl) o7 R1 B1) ?_⟩
 rintro e a2 W2 ⟨rfl,I2,p2,hI2,R2,B2,hp2⟩
 have hle:(lend4 b0 b1 b2 bx).le p2:=fun k v hk=>hp2 k v (hp1 k v hk)
 have blw:=R2.hp.below
 have kept: ∀k,k<W.heap.size→k≠b0→k≠b1→k≠b2→k≠bx→W2.heap[k]?=W.heap[k]?:=by
  intro k hk n0 n1 n2 n3
  refine blw.block k ?_
  rintro(h|⟨i,κ,h⟩)
  · have:W.heap.size≤k:=h
    omega
  · rcases lend4_some h with⟨_,e⟩|⟨_,e⟩|⟨_,e⟩|⟨_,e⟩<;>contradiction
 refine⟨rfl,R2.defers,⟨blw.os,blw.tape,blw.output,blw.size,fun k hk=>kept k (by omega) (by omega) (by omega) (by omega) (by omega)⟩,fun B=>⟨blw.size,fun k o _ hk ho=>?_⟩,?_,?_⟩
 · refine(kept k (Array.getElem?_eq_some_iff.1 hk).1 ?_ ?_ ?_ ?_).trans hk
   · rintro rfl;rw[H0]at hk;cases hk;cases ho
   · rintro rfl;rw[H1]at hk;cases hk;cases ho
   · rintro rfl;rw[H2]at hk;cases hk;cases ho
   · rintro rfl;rw[Hx]at hk;cases hk;cases ho
 · obtain⟨b,κ,c,T,k1,k2,k3,k4,_⟩:=R2.hp.live 1 _ (can7_b p x)
   rw[hle 1 (b1,40) rfl]at k1
   injection k1 with k1
   injection k1 with k1 k1'
   subst k1 k1'
   refine⟨T,?_⟩
   rw[k2,own_eq (v:=(canBy p x).a) (pn_map _) (k3.trans (PN.a_size _).symm) k4]
 · obtain⟨b,κ,c,T,k1,k2,k3,k4,_⟩:=R2.hp.live 2 _ (can7_c p x)
   rw[hle 2 (b2,1) rfl]at k1
   injection k1 with k1
   injection k1 with k1 k1'
   subst k1 k1'
   refine⟨T,?_⟩
   rw[k2,own_eq (v:= #[.int .i64 0]) rfl k3 k4]
end Go.Fw
