/- A part of the proof that the law returns true for every input: an executor for the model's code, and what functions of the program compute. -/
import Derived.Test.YtcafjpldfnegiaaGreatDoorB11
import Derived.Test.YtcafjpldfnegiaaGreatDoorB15
import Derived.Test.YtcafjpldfnegiaaGreatDoorB20
import Derived.Test.YtcafjpldfnegiaaGreatDoorB36
import Derived.Test.YtcafjpldfnegiaaGreatDoorB41
import Derived.Test.YtcafjpldfnegiaaGreatDoorB42
import Derived.Test.YtcafjpldfnegiaaGreatDoorB43
import Derived.Test.YtcafjpldfnegiaaGreatDoorB45
import Derived.KernelRfl
open Go IntKind
namespace Go.Fw
set_option maxRecDepth 100000
theorem zmo(x y:RN){R:CV→Prop}(hR:Ok P 158 (loopHead P 158 0) ⟨J3 45 [(2,.ptr 0 0),(3,.ptr (0+1) 0),(5,.ptr (0+1+1) 0),(12,.cv (.lit (.int .i64 0)))],[some [.cv (.lit (.bool x.b0)),.cv (.lit (.string x.s0)),.cv (.lit (.bool x.b1)),.cv (.lit (.string x.s1)),.cv (.lit (.bool x.b2)),.cv (.lit (.string x.s2)),.cv (.lit (.bool x.b3)),.cv (.lit (.string x.s3)),.cv (.lit (.bool x.b4)),.cv (.lit (.string x.s4))],some [.cv (.lit (.bool y.b0)),.cv (.lit (.string y.s0)),.cv (.lit (.bool y.b1)),.cv (.lit (.string y.s1)),.cv (.lit (.bool y.b2)),.cv (.lit (.string y.s2)),.cv (.lit (.bool y.b3)),.cv (.lit (.string y.s3)),.cv (.lit (.bool y.b4)),.cv (.lit (.string y.s4))],some [.cv (.lit (.bool false)),.cv (.lit (.string {data:= #[]})),.cv (.lit (.bool false)),.cv (.lit (.string {data:= #[]})),.cv (.lit (.bool false)),.cv (.lit (.string {data:= #[]})),.cv (.lit (.bool false)),.cv (.lit (.string {data:= #[]})),.cv (.lit (.bool false)),.cv (.lit (.string {data:= #[]}))]]⟩ (.of R)):X5 P 158 [x.c,y.c] R:=
 Y9 (keep:=[2,3,5,12]) (σ:=[0,1,2]) (.o 6 .stop .nil) (by kernel_rfl) rfl hR (.cons (by simp[CvL]) (.cons (by simp[CvL]) (.cons (by simp[CvL]) .nil)))
theorem zkD(x y:RN)(i:Int)(h1:decide (i<24)=true)(h2:(z0a (z2Q (J9 x (kN (Y0 i))) (J9 y (kN (Z8 i))))==0)=true)(h3:decide (z0a (z0Y (J9 x (kN (Z8 i))) (J9 y (kN (Y0 i))))>0)=true)(s15_0:RN.raw 1000000 x=true)(s15_1:RN.raw 1000000 (kN (Y0 i))=true)(s18_0:RN.raw 1000000 y=true)(s18_1:RN.raw 1000000 (kN (Z8 i))=true)(s19_0:RN.raw 1000000 (J9 x (kN (Y0 i)))=true)(s19_1:RN.raw 1000000 (J9 y (kN (Z8 i)))=true)(s24_0:RN.raw 1000000 x=true)(s24_1:RN.raw 1000000 (kN (Z8 i))=true)(s27_0:RN.raw 1000000 y=true)(s27_1:RN.raw 1000000 (kN (Y0 i))=true)(s28_0:RN.raw 1000000 (J9 x (kN (Z8 i)))=true)(s28_1:RN.raw 1000000 (J9 y (kN (Y0 i)))=true)(s32_0:RN.raw 1000000 (z2Q (J9 x (kN (Y0 i))) (J9 y (kN (Z8 i))))=true)(s36_0:RN.raw 1000000 (z0Y (J9 x (kN (Z8 i))) (J9 y (kN (Y0 i))))=true){R:Goal}(hR:R.c (.tup [.lit (.int .i64 i),RN.c (z0Y (J9 x (kN (Z8 i))) (J9 y (kN (Y0 i)))),.lit (.bool true)])):Ok P 158 (loopHead P 158 0) ⟨J3 45 [(2,.ptr 0 0),(3,.ptr 1 0),(5,.ptr 2 0),(12,.cv (j4 i))],[some (own x.l),some (own y.l),some (own RN.zero.l)]⟩ R:=
 okT (.b 2 h1 (.r 6 (zbs (i)) (.r 8 (zbz (i)) (.c (lq 10 10) (.c (lq 10 10) (.r 15 (z0r (x) (kN (Y0 i)) s15_0 s15_1) (.r 18 (z0r (y) (kN (Z8 i)) s18_0 s18_1) (.r 19 (zaP (J9 x (kN (Y0 i))) (J9 y (kN (Z8 i))) s19_0 s19_1) (.c (lq 10 10) (.r 24 (z0r (x) (kN (Z8 i)) s24_0 s24_1) (.r 27 (z0r (y) (kN (Y0 i)) s27_0 s27_1) (.r 28 (z8H (J9 x (kN (Z8 i))) (J9 y (kN (Y0 i))) s28_0 s28_1) (.c (lq 10 10) (.r 32 (z0n (z2Q (J9 x (kN (Y0 i))) (J9 y (kN (Z8 i)))) s32_0) (.b 34 h2 (.r 36 (z0n (z0Y (J9 x (kN (Z8 i))) (J9 y (kN (Y0 i)))) s36_0) (.b 39 h3 (.c (lq 10 10) .nil)))))))))))))))))) (by kernel_rfl) hR
theorem ziF(x y:RN)(i:Int)(h1:decide (i<24)=true)(h2:(z0a (z2Q (J9 x (kN (Y0 i))) (J9 y (kN (Z8 i))))==0)=true)(h3:decide (z0a (z0Y (J9 x (kN (Z8 i))) (J9 y (kN (Y0 i))))>0)=false)(s15_0:RN.raw 1000000 x=true)(s15_1:RN.raw 1000000 (kN (Y0 i))=true)(s18_0:RN.raw 1000000 y=true)(s18_1:RN.raw 1000000 (kN (Z8 i))=true)(s19_0:RN.raw 1000000 (J9 x (kN (Y0 i)))=true)(s19_1:RN.raw 1000000 (J9 y (kN (Z8 i)))=true)(s24_0:RN.raw 1000000 x=true)(s24_1:RN.raw 1000000 (kN (Z8 i))=true)(s27_0:RN.raw 1000000 y=true)(s27_1:RN.raw 1000000 (kN (Y0 i))=true)(s28_0:RN.raw 1000000 (J9 x (kN (Z8 i)))=true)(s28_1:RN.raw 1000000 (J9 y (kN (Y0 i)))=true)(s32_0:RN.raw 1000000 (z2Q (J9 x (kN (Y0 i))) (J9 y (kN (Z8 i))))=true)(s36_0:RN.raw 1000000 (z0Y (J9 x (kN (Z8 i))) (J9 y (kN (Y0 i))))=true){R:Goal}(hn:J0 R.n [0,1,2]=true)(hR:Ok P 158 (loopHead P 158 0) ⟨J3 45 [(2,.ptr 0 0),(3,.ptr (0+1) 0),(5,.ptr (0+1+1) 0),(12,.cv (.lit (.int .i64 (i64.wrap (i+1)))))],[some (own [.lit (.bool x.b0),.lit (.string x.s0),.lit (.bool x.b1),.lit (.string x.s1),.lit (.bool x.b2),.lit (.string x.s2),.lit (.bool x.b3),.lit (.string x.s3),.lit (.bool x.b4),.lit (.string x.s4)]),some (own [.lit (.bool y.b0),.lit (.string y.s0),.lit (.bool y.b1),.lit (.string y.s1),.lit (.bool y.b2),.lit (.string y.s2),.lit (.bool y.b3),.lit (.string y.s3),.lit (.bool y.b4),.lit (.string y.s4)]),some (own [.lit (.bool false),.lit (.string RN.zero.s0),.lit (.bool false),.lit (.string RN.zero.s1),.lit (.bool false),.lit (.string RN.zero.s2),.lit (.bool false),.lit (.string RN.zero.s3),.lit (.bool false),.lit (.string RN.zero.s4)])]⟩ R):Ok P 158 (loopHead P 158 0) ⟨J3 45 [(2,.ptr 0 0),(3,.ptr 1 0),(5,.ptr 2 0),(12,.cv (j4 i))],[some (own x.l),some (own y.l),some (own RN.zero.l)]⟩ R:=
 z0W (keep:=[2,3,5,12]) (σ:=[0,1,2]) (.b 2 h1 (.r 6 (zbs (i)) (.r 8 (zbz (i)) (.c (lq 10 10) (.c (lq 10 10) (.r 15 (z0r (x) (kN (Y0 i)) s15_0 s15_1) (.r 18 (z0r (y) (kN (Z8 i)) s18_0 s18_1) (.r 19 (zaP (J9 x (kN (Y0 i))) (J9 y (kN (Z8 i))) s19_0 s19_1) (.c (lq 10 10) (.r 24 (z0r (x) (kN (Z8 i)) s24_0 s24_1) (.r 27 (z0r (y) (kN (Y0 i)) s27_0 s27_1) (.r 28 (z8H (J9 x (kN (Z8 i))) (J9 y (kN (Y0 i))) s28_0 s28_1) (.c (lq 10 10) (.r 32 (z0n (z2Q (J9 x (kN (Y0 i))) (J9 y (kN (Z8 i)))) s32_0) (.b 34 h2 (.r 36 (z0n (z0Y (J9 x (kN (Z8 i))) (J9 y (kN (Y0 i)))) s36_0) (.b 39 h3 (.o 42 .stop .nil)))))))))))))))))) (by kernel_rfl) rfl hn hR (.cons (j8 _) (.cons (j8 _) (.cons (j8 _) .nil)))
theorem zjf(x y:RN)(i:Int)(h1:decide (i<24)=true)(h2:(z0a (z2Q (J9 x (kN (Y0 i))) (J9 y (kN (Z8 i))))==0)=false)(s15_0:RN.raw 1000000 x=true)(s15_1:RN.raw 1000000 (kN (Y0 i))=true)(s18_0:RN.raw 1000000 y=true)(s18_1:RN.raw 1000000 (kN (Z8 i))=true)(s19_0:RN.raw 1000000 (J9 x (kN (Y0 i)))=true)(s19_1:RN.raw 1000000 (J9 y (kN (Z8 i)))=true)(s24_0:RN.raw 1000000 x=true)(s24_1:RN.raw 1000000 (kN (Z8 i))=true)(s27_0:RN.raw 1000000 y=true)(s27_1:RN.raw 1000000 (kN (Y0 i))=true)(s28_0:RN.raw 1000000 (J9 x (kN (Z8 i)))=true)(s28_1:RN.raw 1000000 (J9 y (kN (Y0 i)))=true)(s32_0:RN.raw 1000000 (z2Q (J9 x (kN (Y0 i))) (J9 y (kN (Z8 i))))=true){R:Goal}(hn:J0 R.n [0,1,2]=true)(hR:Ok P 158 (loopHead P 158 0) ⟨J3 45 [(2,.ptr 0 0),(3,.ptr (0+1) 0),(5,.ptr (0+1+1) 0),(12,.cv (.lit (.int .i64 (i64.wrap (i+1)))))],[some (own [.lit (.bool x.b0),.lit (.string x.s0),.lit (.bool x.b1),.lit (.string x.s1),.lit (.bool x.b2),.lit (.string x.s2),.lit (.bool x.b3),.lit (.string x.s3),.lit (.bool x.b4),.lit (.string x.s4)]),some (own [.lit (.bool y.b0),.lit (.string y.s0),.lit (.bool y.b1),.lit (.string y.s1),.lit (.bool y.b2),.lit (.string y.s2),.lit (.bool y.b3),.lit (.string y.s3),.lit (.bool y.b4),.lit (.string y.s4)]),some (own [.lit (.bool false),.lit (.string RN.zero.s0),.lit (.bool false),.lit (.string RN.zero.s1),.lit (.bool false),.lit (.string RN.zero.s2),.lit (.bool false),.lit (.string RN.zero.s3),.lit (.bool false),.lit (.string RN.zero.s4)])]⟩ R):Ok P 158 (loopHead P 158 0) ⟨J3 45 [(2,.ptr 0 0),(3,.ptr 1 0),(5,.ptr 2 0),(12,.cv (j4 i))],[some (own x.l),some (own y.l),some (own RN.zero.l)]⟩ R:=
 z0W (keep:=[2,3,5,12]) (σ:=[0,1,2]) (.b 2 h1 (.r 6 (zbs (i)) (.r 8 (zbz (i)) (.c (lq 10 10) (.c (lq 10 10) (.r 15 (z0r (x) (kN (Y0 i)) s15_0 s15_1) (.r 18 (z0r (y) (kN (Z8 i)) s18_0 s18_1) (.r 19 (zaP (J9 x (kN (Y0 i))) (J9 y (kN (Z8 i))) s19_0 s19_1) (.c (lq 10 10) (.r 24 (z0r (x) (kN (Z8 i)) s24_0 s24_1) (.r 27 (z0r (y) (kN (Y0 i)) s27_0 s27_1) (.r 28 (z8H (J9 x (kN (Z8 i))) (J9 y (kN (Y0 i))) s28_0 s28_1) (.c (lq 10 10) (.r 32 (z0n (z2Q (J9 x (kN (Y0 i))) (J9 y (kN (Z8 i)))) s32_0) (.b 34 h2 (.o 42 .stop .nil)))))))))))))))) (by kernel_rfl) rfl hn hR (.cons (j8 _) (.cons (j8 _) (.cons (j8 _) .nil)))
theorem zim(x y:RN)(i:Int)(h1:decide (i<24)=false){R:Goal}(hR:R.c (.tup [.lit (.int .i64 0),.agg X9,.lit (.bool false)])):Ok P 158 (loopHead P 158 0) ⟨J3 45 [(2,.ptr 0 0),(3,.ptr 1 0),(5,.ptr 2 0),(12,.cv (j4 i))],[some (own x.l),some (own y.l),some (own RN.zero.l)]⟩ R:=
 okT (.b 2 h1 (.c (lq 10 10) .nil)) (by kernel_rfl) hR
end Go.Fw
open Go
namespace Go.Fw
set_option maxRecDepth 100000
noncomputable def z9A(x y:RN)(i:Int):RN:=z2Q (J9 x (kN (Y0 i))) (J9 y (kN (Z8 i)))
noncomputable def z5r(x y:RN)(i:Int):RN:=z0Y (J9 x (kN (Z8 i))) (J9 y (kN (Y0 i)))
noncomputable def z0J(x y:RN):Nat→Nat→Int×RN×Bool
 |0,_=>(0,.zero,false)
 |d+1,i=>if z0a (z9A x y i)=0 then(if z0a (z5r x y i)>0 then(i,z5r x y i,true)else z0J x y d (i+1))else z0J x y d (i+1)
theorem z4N(i:Int){n:Nat}(h:1≤n):(kN (Z8 i)).raw n=true:=z2y (Nat.le_trans (zmx i) h)
theorem z4F(i:Int){n:Nat}(h:1≤n):(kN (Y0 i)).raw n=true:=z2y (Nat.le_trans (zoG i) h)
theorem zc4{x y:RN}{n:Nat}(i:Int)(h1:1≤n)(hx:x.raw n=true)(hy:y.raw n=true):(z9A x y i).raw (4*n+3)=true:=
 RN.raw_mono (ziS (z0k hx (z4F i h1)) (z0k hy (z4N i h1))) (by omega)
theorem z9L{x y:RN}{n:Nat}(i:Int)(h1:1≤n)(hx:x.raw n=true)(hy:y.raw n=true):(z5r x y i).raw (4*n+3)=true:=
 RN.raw_mono (zkd (z0k hx (z4N i h1)) (z0k hy (z4F i h1))) (by omega)
theorem z9Y {R : Goal} (hn : J0 R.n [0, 1, 2] = true) (x y : RN) (hx : x.raw 1000 = true) (hy : y.raw 1000 = true) : ∀ (d i : Nat), i + d = 24 → R.c (.tup [j4 (z0J x y d i).1, (z0J x y d i).2.1.c, .lit (.bool (z0J x y d i).2.2)]) →
    Ok P 158 (loopHead P 158 0) ⟨J3 45 [(2,.ptr 0 0),(3,.ptr 1 0),(5,.ptr 2 0),(12,.cv (j4 i))],[some (own x.l),some (own y.l),some (own RN.zero.l)]⟩ R
 |0,i,hi,hR=>zim x y i (decide_eq_false (by omega)) hR
 |d+1,i,hi,hR=>by
  have up: ∀{x:RN} {n:Nat},x.raw n=true→n≤1000000→x.raw 1000000=true:=fun h k=>RN.raw_mono h k
  have X:=up hx (by decide)
  have Y:=up hy (by decide)
  have C:=z4N i (n:=1000) (by decide)
  have S:=z4F i (n:=1000) (by decide)
  have C6:=up C (by decide)
  have S6:=up S (by decide)
  have a1:=up (z0k hx S) (by decide)
  have a2:=up (z0k hy C) (by decide)
  have a3:=up (z0k hx C) (by decide)
  have a4:=up (z0k hy S) (by decide)
  have a5:(z9A x y i).raw 1000000=true:=up (zc4 i (by decide) hx hy) (by decide)
  have a6:(z5r x y i).raw 1000000=true:=up (z9L i (by decide) hx hy) (by decide)
  have ih:=z9Y hn x y hx hy d (i+1) (by omega)
  have w:IntKind.i64.wrap ((i:Int)+1)=((i+1:Nat):Int):=by rw[w64 (by omega)];omega
  unfold z0J at hR
  by_cases h2:z0a (z9A x y i)=0
  · rw[if_pos h2]at hR
    by_cases h3:z0a (z5r x y i)>0
    · rw[if_pos h3]at hR
      exact zkD x y i (decide_eq_true (by omega)) (beq_iff_eq.2 h2) (decide_eq_true h3) X S6 Y C6 a1 a2 X C6 Y S6 a3 a4 a5 a6 hR
    · rw[if_neg h3]at hR
      refine ziF x y i (decide_eq_true (by omega)) (beq_iff_eq.2 h2) (decide_eq_false h3) X S6 Y C6 a1 a2 X C6 Y S6 a3 a4 a5 a6 hn ?_
      rw[w]
      exact ih hR
  · rw[if_neg h2]at hR
    refine zjf x y i (decide_eq_true (by omega)) (by cases e:z0a (z9A x y i)==0;exact e;exact absurd (beq_iff_eq.1 e) h2) X S6 Y C6 a1 a2 X C6 Y S6 a3 a4 a5 hn ?_
    rw[w]
    exact ih hR
theorem zhF(x y:RN): ∃z,z=z0J x y 24 0:=⟨_,rfl⟩
noncomputable def z0m(x y:RN):Int×RN×Bool:=(zhF x y).choose
theorem z7M(x y:RN):z0m x y=z0J x y 24 0:=(zhF x y).choose_spec
theorem zbr(x y:RN)(hx:x.raw 1000=true)(hy:y.raw 1000=true):PCall P 158 [x.c,y.c] (.tup [j4 (z0m x y).1,(z0m x y).2.1.c,.lit (.bool (z0m x y).2.2)]):=by
 rw[z7M]
 exact V8 (zmo x y (z9Y rfl x y hx hy 24 0 rfl rfl))
end Go.Fw
open Go IntKind
namespace Go.Fw
set_option maxRecDepth 100000
theorem znf(h v i:Int)(h1:(decide (h<0))=true):PCall P 81 [.agg [j4 h,j4 v,j4 i]] (.lit (.bool false)):=
 j3 (.b 5 h1 .nil) (by kernel_rfl)
theorem zrp(h v i:Int)(h1:(decide (h<0))=false)(h2:(decide (h>1000))=true):PCall P 81 [.agg [j4 h,j4 v,j4 i]] (.lit (.bool false)):=
 j3 (.b 5 h1 (.b 10 h2 .nil)) (by kernel_rfl)
theorem zrh(h v i:Int)(h1:(decide (h<0))=false)(h2:(decide (h>1000))=false)(h3:(decide (v<(-1000:Int)))=true):PCall P 81 [.agg [j4 h,j4 v,j4 i]] (.lit (.bool false)):=
 j3 (.b 5 h1 (.b 10 h2 (.b 15 h3 .nil))) (by kernel_rfl)
theorem zqC(h v i:Int)(h1:(decide (h<0))=false)(h2:(decide (h>1000))=false)(h3:(decide (v<(-1000:Int)))=false)(h4:(decide (v>1000))=true):PCall P 81 [.agg [j4 h,j4 v,j4 i]] (.lit (.bool false)):=
 j3 (.b 5 h1 (.b 10 h2 (.b 15 h3 (.b 20 h4 .nil)))) (by kernel_rfl)
theorem zoo(h v i:Int)(h1:(decide (h<0))=false)(h2:(decide (h>1000))=false)(h3:(decide (v<(-1000:Int)))=false)(h4:(decide (v>1000))=false)(h5:((↑(h.natAbs.gcd (if i64.wrap ((0:Int)-v)>v then i64.wrap ((0:Int)-v)else v).natAbs):Int) != 1)=true)(s29_0:(0:Int)≤h)(s29_1:(0:Int)≤if i64.wrap ((0:Int)-v)>v then i64.wrap ((0:Int)-v)else v):PCall P 81 [.agg [j4 h,j4 v,j4 i]] (.lit (.bool false)):=
 j3 (.b 5 h1 (.b 10 h2 (.b 15 h3 (.b 20 h4 (.r 29 (zoY (h) (if i64.wrap ((0:Int)-v)>v then i64.wrap ((0:Int)-v)else v) s29_0 s29_1) (.b 32 h5 .nil)))))) (by kernel_rfl)
theorem zoh(h v i:Int)(h1:(decide (h<0))=false)(h2:(decide (h>1000))=false)(h3:(decide (v<(-1000:Int)))=false)(h4:(decide (v>1000))=false)(h5:((↑(h.natAbs.gcd (if i64.wrap ((0:Int)-v)>v then i64.wrap ((0:Int)-v)else v).natAbs):Int) != 1)=false)(h6:(decide (i≥0))=true)(h7:(decide (i<24))=true)(h8:(h != 0)=true)(s29_0:(0:Int)≤h)(s29_1:(0:Int)≤if i64.wrap ((0:Int)-v)>v then i64.wrap ((0:Int)-v)else v):PCall P 81 [.agg [j4 h,j4 v,j4 i]] (.lit (.bool true)):=
 j3 (.b 5 h1 (.b 10 h2 (.b 15 h3 (.b 20 h4 (.r 29 (zoY (h) (if i64.wrap ((0:Int)-v)>v then i64.wrap ((0:Int)-v)else v) s29_0 s29_1) (.b 32 h5 (.b 36 h6 (.b 41 h7 (.b 45 h8 .nil))))))))) (by kernel_rfl)
theorem zn5(h v i:Int)(h1:(decide (h<0))=false)(h2:(decide (h>1000))=false)(h3:(decide (v<(-1000:Int)))=false)(h4:(decide (v>1000))=false)(h5:((↑(h.natAbs.gcd (if i64.wrap ((0:Int)-v)>v then i64.wrap ((0:Int)-v)else v).natAbs):Int) != 1)=false)(h6:(decide (i≥0))=true)(h7:(decide (i<24))=true)(h8:(h != 0)=false)(s29_0:(0:Int)≤h)(s29_1:(0:Int)≤if i64.wrap ((0:Int)-v)>v then i64.wrap ((0:Int)-v)else v):PCall P 81 [.agg [j4 h,j4 v,j4 i]] (.lit (.bool (i==0))):=
 j3 (.b 5 h1 (.b 10 h2 (.b 15 h3 (.b 20 h4 (.r 29 (zoY (h) (if i64.wrap ((0:Int)-v)>v then i64.wrap ((0:Int)-v)else v) s29_0 s29_1) (.b 32 h5 (.b 36 h6 (.b 41 h7 (.b 45 h8 .nil))))))))) (by kernel_rfl)
theorem zng(h v i:Int)(h1:(decide (h<0))=false)(h2:(decide (h>1000))=false)(h3:(decide (v<(-1000:Int)))=false)(h4:(decide (v>1000))=false)(h5:((↑(h.natAbs.gcd (if i64.wrap ((0:Int)-v)>v then i64.wrap ((0:Int)-v)else v).natAbs):Int) != 1)=false)(h6:(decide (i≥0))=true)(h7:(decide (i<24))=false)(s29_0:(0:Int)≤h)(s29_1:(0:Int)≤if i64.wrap ((0:Int)-v)>v then i64.wrap ((0:Int)-v)else v):PCall P 81 [.agg [j4 h,j4 v,j4 i]] (.lit (.bool false)):=
 j3 (.b 5 h1 (.b 10 h2 (.b 15 h3 (.b 20 h4 (.r 29 (zoY (h) (if i64.wrap ((0:Int)-v)>v then i64.wrap ((0:Int)-v)else v) s29_0 s29_1) (.b 32 h5 (.b 36 h6 (.b 41 h7 .nil)))))))) (by kernel_rfl)
theorem zq2(h v i:Int)(h1:(decide (h<0))=false)(h2:(decide (h>1000))=false)(h3:(decide (v<(-1000:Int)))=false)(h4:(decide (v>1000))=false)(h5:((↑(h.natAbs.gcd (if i64.wrap ((0:Int)-v)>v then i64.wrap ((0:Int)-v)else v).natAbs):Int) != 1)=false)(h6:(decide (i≥0))=false)(s29_0:(0:Int)≤h)(s29_1:(0:Int)≤if i64.wrap ((0:Int)-v)>v then i64.wrap ((0:Int)-v)else v):PCall P 81 [.agg [j4 h,j4 v,j4 i]] (.lit (.bool false)):=
 j3 (.b 5 h1 (.b 10 h2 (.b 15 h3 (.b 20 h4 (.r 29 (zoY (h) (if i64.wrap ((0:Int)-v)>v then i64.wrap ((0:Int)-v)else v) s29_0 s29_1) (.b 32 h5 (.b 36 h6 .nil))))))) (by kernel_rfl)
theorem zrt(h v i:Int)(h1:(decide (h≥0))=true)(h2:(decide (h≤1000))=true)(h3:(decide (v≥(-1000:Int)))=true)(h4:(decide (v≤1000))=true)(h5:((↑(h.natAbs.gcd (if i64.wrap ((0:Int)-v)>v then i64.wrap ((0:Int)-v)else v).natAbs):Int)==1)=true)(h6:(decide (i≥0))=true)(h7:(decide (i<24))=true)(h8:(decide (h>0))=true)(s29_0:(0:Int)≤h)(s29_1:(0:Int)≤if i64.wrap ((0:Int)-v)>v then i64.wrap ((0:Int)-v)else v):PCall P 82 [.agg [j4 h,j4 v,j4 i]] (.lit (.bool true)):=
 j3 (.b 5 h1 (.b 10 h2 (.b 15 h3 (.b 20 h4 (.r 29 (zdr (h) (if i64.wrap ((0:Int)-v)>v then i64.wrap ((0:Int)-v)else v) s29_0 s29_1) (.b 32 h5 (.b 37 h6 (.b 42 h7 (.b 46 h8 .nil))))))))) (by kernel_rfl)
theorem znY(h v i:Int)(h1:(decide (h≥0))=true)(h2:(decide (h≤1000))=true)(h3:(decide (v≥(-1000:Int)))=true)(h4:(decide (v≤1000))=true)(h5:((↑(h.natAbs.gcd (if i64.wrap ((0:Int)-v)>v then i64.wrap ((0:Int)-v)else v).natAbs):Int)==1)=true)(h6:(decide (i≥0))=true)(h7:(decide (i<24))=true)(h8:(decide (h>0))=false)(s29_0:(0:Int)≤h)(s29_1:(0:Int)≤if i64.wrap ((0:Int)-v)>v then i64.wrap ((0:Int)-v)else v):PCall P 82 [.agg [j4 h,j4 v,j4 i]] (.lit (.bool (i==0))):=
 j3 (.b 5 h1 (.b 10 h2 (.b 15 h3 (.b 20 h4 (.r 29 (zdr (h) (if i64.wrap ((0:Int)-v)>v then i64.wrap ((0:Int)-v)else v) s29_0 s29_1) (.b 32 h5 (.b 37 h6 (.b 42 h7 (.b 46 h8 .nil))))))))) (by kernel_rfl)
theorem zrn(h v i:Int)(h1:(decide (h≥0))=true)(h2:(decide (h≤1000))=true)(h3:(decide (v≥(-1000:Int)))=true)(h4:(decide (v≤1000))=true)(h5:((↑(h.natAbs.gcd (if i64.wrap ((0:Int)-v)>v then i64.wrap ((0:Int)-v)else v).natAbs):Int)==1)=true)(h6:(decide (i≥0))=true)(h7:(decide (i<24))=false)(s29_0:(0:Int)≤h)(s29_1:(0:Int)≤if i64.wrap ((0:Int)-v)>v then i64.wrap ((0:Int)-v)else v):PCall P 82 [.agg [j4 h,j4 v,j4 i]] (.lit (.bool false)):=
 j3 (.b 5 h1 (.b 10 h2 (.b 15 h3 (.b 20 h4 (.r 29 (zdr (h) (if i64.wrap ((0:Int)-v)>v then i64.wrap ((0:Int)-v)else v) s29_0 s29_1) (.b 32 h5 (.b 37 h6 (.b 42 h7 .nil)))))))) (by kernel_rfl)
theorem zqw(h v i:Int)(h1:(decide (h≥0))=true)(h2:(decide (h≤1000))=true)(h3:(decide (v≥(-1000:Int)))=true)(h4:(decide (v≤1000))=true)(h5:((↑(h.natAbs.gcd (if i64.wrap ((0:Int)-v)>v then i64.wrap ((0:Int)-v)else v).natAbs):Int)==1)=true)(h6:(decide (i≥0))=false)(s29_0:(0:Int)≤h)(s29_1:(0:Int)≤if i64.wrap ((0:Int)-v)>v then i64.wrap ((0:Int)-v)else v):PCall P 82 [.agg [j4 h,j4 v,j4 i]] (.lit (.bool false)):=
 j3 (.b 5 h1 (.b 10 h2 (.b 15 h3 (.b 20 h4 (.r 29 (zdr (h) (if i64.wrap ((0:Int)-v)>v then i64.wrap ((0:Int)-v)else v) s29_0 s29_1) (.b 32 h5 (.b 37 h6 .nil))))))) (by kernel_rfl)
theorem zqT(h v i:Int)(h1:(decide (h≥0))=true)(h2:(decide (h≤1000))=true)(h3:(decide (v≥(-1000:Int)))=true)(h4:(decide (v≤1000))=true)(h5:((↑(h.natAbs.gcd (if i64.wrap ((0:Int)-v)>v then i64.wrap ((0:Int)-v)else v).natAbs):Int)==1)=false)(s29_0:(0:Int)≤h)(s29_1:(0:Int)≤if i64.wrap ((0:Int)-v)>v then i64.wrap ((0:Int)-v)else v):PCall P 82 [.agg [j4 h,j4 v,j4 i]] (.lit (.bool false)):=
 j3 (.b 5 h1 (.b 10 h2 (.b 15 h3 (.b 20 h4 (.r 29 (zdr (h) (if i64.wrap ((0:Int)-v)>v then i64.wrap ((0:Int)-v)else v) s29_0 s29_1) (.b 32 h5 .nil)))))) (by kernel_rfl)
theorem zrd(h v i:Int)(h1:(decide (h≥0))=true)(h2:(decide (h≤1000))=true)(h3:(decide (v≥(-1000:Int)))=true)(h4:(decide (v≤1000))=false):PCall P 82 [.agg [j4 h,j4 v,j4 i]] (.lit (.bool false)):=
 j3 (.b 5 h1 (.b 10 h2 (.b 15 h3 (.b 20 h4 .nil)))) (by kernel_rfl)
theorem zrl(h v i:Int)(h1:(decide (h≥0))=true)(h2:(decide (h≤1000))=true)(h3:(decide (v≥(-1000:Int)))=false):PCall P 82 [.agg [j4 h,j4 v,j4 i]] (.lit (.bool false)):=
 j3 (.b 5 h1 (.b 10 h2 (.b 15 h3 .nil))) (by kernel_rfl)
theorem zqu(h v i:Int)(h1:(decide (h≥0))=true)(h2:(decide (h≤1000))=false):PCall P 82 [.agg [j4 h,j4 v,j4 i]] (.lit (.bool false)):=
 j3 (.b 5 h1 (.b 10 h2 .nil)) (by kernel_rfl)
theorem zn1(h v i:Int)(h1:(decide (h≥0))=false):PCall P 82 [.agg [j4 h,j4 v,j4 i]] (.lit (.bool false)):=
 j3 (.b 5 h1 .nil) (by kernel_rfl)
theorem zk3(x:K)(h1:((bytesOf x.c1.natAbs).toList==[])=true)(h2:((bytesOf x.c2.natAbs).toList==[])=true)(s3_0:Smk x):PCall P 218 [Z4 x] (.lit (.bool ((bytesOf x.c3.natAbs).toList==[]))):=
 j3 (.r 3 (z03 (x) s3_0) (.c (bq 1 4) (.b 11 h1 (.c (bq 2 4) (.b 18 h2 (.c (bq 3 4) .nil)))))) (by kernel_rfl)
theorem zjD(x:K)(h1:((bytesOf x.c1.natAbs).toList==[])=true)(h2:((bytesOf x.c2.natAbs).toList==[])=false)(s3_0:Smk x):PCall P 218 [Z4 x] (.lit (.bool false)):=
 j3 (.r 3 (z03 (x) s3_0) (.c (bq 1 4) (.b 11 h1 (.c (bq 2 4) (.b 18 h2 .nil))))) (by kernel_rfl)
theorem zkW(x:K)(h1:((bytesOf x.c1.natAbs).toList==[])=false)(s3_0:Smk x):PCall P 218 [Z4 x] (.lit (.bool false)):=
 j3 (.r 3 (z03 (x) s3_0) (.c (bq 1 4) (.b 11 h1 .nil))) (by kernel_rfl)
theorem ziZ(x:K)(h1:(decide (x.c1<0)==false&&(bytesOf x.c1.natAbs=={data:= #[]}&&true))=true)(h2:(decide (x.c2<0)==false&&(bytesOf x.c2.natAbs=={data:= #[]}&&true))=true)(s3_0:x.sz≤1000000):PCall P 219 [Z4 x] (.lit (.bool (decide (x.c3<0)==false&&(bytesOf x.c3.natAbs=={data:= #[]}&&true)))):=
 j3 (.r 3 (z0A (x) s3_0) (.c (bq 1 4) (.b 11 h1 (.c (bq 2 4) (.b 18 h2 (.c (bq 3 4) .nil)))))) (by kernel_rfl)
theorem zld(x:K)(h1:(decide (x.c1<0)==false&&(bytesOf x.c1.natAbs=={data:= #[]}&&true))=true)(h2:(decide (x.c2<0)==false&&(bytesOf x.c2.natAbs=={data:= #[]}&&true))=false)(s3_0:x.sz≤1000000):PCall P 219 [Z4 x] (.lit (.bool false)):=
 j3 (.r 3 (z0A (x) s3_0) (.c (bq 1 4) (.b 11 h1 (.c (bq 2 4) (.b 18 h2 .nil))))) (by kernel_rfl)
theorem zjN(x:K)(h1:(decide (x.c1<0)==false&&(bytesOf x.c1.natAbs=={data:= #[]}&&true))=false)(s3_0:x.sz≤1000000):PCall P 219 [Z4 x] (.lit (.bool false)):=
 j3 (.r 3 (z0A (x) s3_0) (.c (bq 1 4) (.b 11 h1 .nil))) (by kernel_rfl)
theorem zi7(z:Int)(h1:((z0e z).2)=true)(h2:(decide ((z0e z).1≥(-1000:Int)))=true):PCall P 220 [J5 z] (.tup [.lit (.int .i64 (z0e z).1),.lit (.bool (decide ((z0e z).1≤1000)))]):=
 j3 (.r 4 (zcb (z)) (.b 12 h1 (.b 16 h2 .nil))) (by kernel_rfl)
theorem zir(z:Int)(h1:((z0e z).2)=true)(h2:(decide ((z0e z).1≥(-1000:Int)))=false):PCall P 220 [J5 z] (.tup [.lit (.int .i64 (z0e z).1),.lit (.bool false)]):=
 j3 (.r 4 (zcb (z)) (.b 12 h1 (.b 16 h2 .nil))) (by kernel_rfl)
theorem zmd(z:Int)(h1:((z0e z).2)=false):PCall P 220 [J5 z] (.tup [.lit (.int .i64 (z0e z).1),.lit (.bool false)]):=
 j3 (.r 4 (zcb (z)) (.b 12 h1 .nil)) (by kernel_rfl)
end Go.Fw
open Go
namespace Go.Fw
set_option maxRecDepth 100000
theorem z5j(a b:Int)(h:Two a b):PCall P 128 [J5 a,J5 b] (J5 (a*b)):=by
 obtain⟨n,hn,ha,hb⟩:=h
 exact Y5 a b (ha.sml (by omega)) (hb.sml (by omega)) (ha.sm2 hb (by omega))
theorem z9U(k:Nat)(b:Int)(h:Two k b):PCall P 128 [.agg [.lit (.bool false),.lit (.string (bytesOf k))],J5 b] (J5 (k*b)):=by
 have:=z5j k b h
 unfold J5 at this ⊢
 rw[show decide ((k:Int)<0)=false from decide_eq_false (by omega)]at this
 exact this
theorem zoJ(a b:Int)(h:Two a b):PCall P 127 [J5 a,J5 b] (J5 (a+b)):=by
 obtain⟨n,hn,ha,hb⟩:=h
 exact z0F a b (ha.sml (by omega)) (hb.sml (by omega)) (ha.sma hb (by omega))
theorem zh7(a b:Int):(if a<b then(-1:Int)else if a=b then 0 else 1)=(a-b).sign:=by
 rcases Int.lt_trichotomy a b with h|h|h
 · rw[if_pos h,Int.sign_eq_neg_one_of_neg (by omega)]
 · rw[if_neg (by omega),if_pos h,h,Int.sub_self];rfl
 · rw[if_neg (by omega),if_neg (by omega),Int.sign_eq_one_of_pos (by omega)]
theorem zqk(a b:Int)(h:Two a b):PCall P 213 [J5 a,J5 b] (j4 (a-b).sign):=by
 obtain⟨n,hn,ha,hb⟩:=h
 rw[←zh7]
 exact zdQ a b (ha.sml (by omega)) (hb.sml (by omega))
end Go.Fw
open Go IntKind
namespace Go.Fw
set_option maxRecDepth 100000
theorem zjX(a b:Int)(h1:(a.sign==b.sign)=true):PCall P 151 [J5 a,J5 b] (.lit (.int .i64 a.sign)):=
 j3 (.r 4 (Q7 (a)) (.r 6 (Q7 (b)) (.b 12 h1 .nil))) (by kernel_rfl)
theorem zj4(a b:Int)(h1:(a.sign==b.sign)=false)(h2:(b.sign==0)=true):PCall P 151 [J5 a,J5 b] (.lit (.int .i64 a.sign)):=
 j3 (.r 4 (Q7 (a)) (.r 6 (Q7 (b)) (.b 12 h1 (.b 16 h2 .nil)))) (by kernel_rfl)
theorem zk9(a b:Int)(h1:(a.sign==b.sign)=false)(h2:(b.sign==0)=false)(h3:(a.sign==0)=true):PCall P 151 [J5 a,J5 b] (.lit (.int .i64 b.sign)):=
 j3 (.r 4 (Q7 (a)) (.r 6 (Q7 (b)) (.b 12 h1 (.b 16 h2 (.b 19 h3 .nil))))) (by kernel_rfl)
theorem ziv(a b:Int)(h1:(a.sign==b.sign)=false)(h2:(b.sign==0)=false)(h3:(a.sign==0)=false)(s23_0:Two a a)(s24_0:(-9223372036854775808:Int)≤2∧(2:Int)≤9223372036854775807)(s27_0:Two b b)(s28_0:Two (2:Int) (b*b))(s29_0:Two (a*a) ((2:Int)*(b*b))):PCall P 151 [J5 a,J5 b] (.lit (.int .i64 (i64.wrap (a.sign*(a*a-2*(b*b)).sign)))):=
 j3 (.r 4 (Q7 (a)) (.r 6 (Q7 (b)) (.b 12 h1 (.b 16 h2 (.b 19 h3 (.r 23 (z5j (a) (a) s23_0) (.r 24 (W7 ((2:Int)) s24_0) (.r 27 (z5j (b) (b) s27_0) (.r 28 (z9U (2) (b*b) s28_0) (.r 29 (zqk (a*a) ((2:Int)*(b*b)) s29_0) .nil)))))))))) (by kernel_rfl)
theorem zio(a b:Int)(s15_0:Two a (-b)):PCall P 152 [J5 a,J5 b] (.agg [.lit (.bool (decide (a+ -b<0))),.lit (.string (bytesOf (a+ -b).natAbs))]):=
 j3 (.r 4 (J1 (a)) (.r 8 (J1 (b)) (.r 14 (U0 (b)) (.r 15 (zoJ (a) (-b) s15_0) (.c (lq 2 2) .nil))))) (by kernel_rfl)
end Go.Fw
open Go
namespace Go.Fw
set_option maxRecDepth 100000
theorem z49(a b:Int)(h:z5z a b):PCall P 151 [J5 a,J5 b] (j4 (sg2 a b)):=by
 obtain⟨n,hn,ha,hb⟩:=h
 unfold sg2 z5n
 by_cases h1:a.sign=b.sign
 · rw[if_pos (.inl h1)]
   exact zjX a b (by simp[h1])
 · by_cases h2:b.sign=0
   · rw[if_pos (.inr h2)]
     exact zj4 a b (beq_false_of_ne h1) (by simp[h2])
   · rw[if_neg (by rintro(h|h)<;>contradiction)]
     by_cases h3:a.sign=0
     · rw[if_pos h3]
       exact zk9 a b (beq_false_of_ne h1) (beq_false_of_ne h2) (by simp[h3])
     · rw[if_neg h3]
       have:=ziv a b (beq_false_of_ne h1) (beq_false_of_ne h2) (beq_false_of_ne h3) ⟨n,by omega,ha,ha⟩ (by decide) ⟨n,by omega,hb,hb⟩ ⟨n+n+1,by omega,(show By 1 2 by unfold By;decide).mono (by omega),(hb.mul hb).mono (by omega)⟩ ⟨n+n+1,by omega,(ha.mul ha).mono (by omega),(hb.mul hb).two⟩
       have s1:=z3B a
       have s2:=z3B (a*a-2*(b*b))
       have hw:IntKind.i64.wrap (a.sign*(a*a-2*(b*b)).sign)=a.sign*(a*a-2*(b*b)).sign:=by
        generalize (a*a-2*(b*b)).sign=t at*
        have:a.sign= -1∨a.sign=1:=by omega
        rcases this with h|h<;>rw[h]<;>exact w64 (by omega)
       rw[hw]at this
       exact this
theorem zhA(a b:Int)(h:Two a b):PCall P 152 [J5 a,J5 b] (J5 (a-b)):=by
 obtain⟨n,hn,ha,hb⟩:=h
 have:=zio a b ⟨n,hn,ha,hb.neg⟩
 rw[←Int.sub_eq_add_neg]at this
 exact this
theorem za5(a b:Int)(h:Two a b):PCall P 130 [c4C a b 0 0,c4C a b 0 0] (c4C (a*a+2*(b*b)) (2*(a*b)) 0 0):=by
 obtain⟨n,hn,ha,hb⟩:=h
 have z:By n 0:=by unfold By;exact Nat.pow_pos (by decide)
 have:=z4k a b 0 0 a b 0 0 ⟨n,hn,⟨ha,hb,z,z⟩,ha,hb,z,z⟩
 rw[show a*a+2*b*b+3*0*0+6*0*0=a*a+2*(b*b) by grind,show a*b+b*a+3*0*0+3*0*0=2*(a*b) by grind,show a*0+0*a+2*b*0+2*0*b=0 by grind,show a*0+0*a+b*0+0*b=0 by grind]at this
 exact this
end Go.Fw
open Go IntKind
namespace Go.Fw
set_option maxRecDepth 100000
theorem zmu(x:K)(h1:(sg2 x.c0 x.c1==sg2 x.c2 x.c3)=true)(s3_0:x.sz≤1000000)(s12_0:z5z x.c0 x.c1)(s19_0:z5z x.c2 x.c3):PCall P 71 [Z4 x] (.lit (.int .i64 (sg2 x.c0 x.c1))):=
 j3 (.r 3 (z0A (x) s3_0) (.c (bq 0 4) (.c (bq 1 4) (.r 12 (z49 (x.c0) (x.c1) s12_0) (.c (bq 2 4) (.c (bq 3 4) (.r 19 (z49 (x.c2) (x.c3) s19_0) (.b 25 h1 .nil)))))))) (by kernel_rfl)
theorem zpf(x:K)(h1:(sg2 x.c0 x.c1==sg2 x.c2 x.c3)=false)(h2:(sg2 x.c2 x.c3==0)=true)(s3_0:x.sz≤1000000)(s12_0:z5z x.c0 x.c1)(s19_0:z5z x.c2 x.c3):PCall P 71 [Z4 x] (.lit (.int .i64 (sg2 x.c0 x.c1))):=
 j3 (.r 3 (z0A (x) s3_0) (.c (bq 0 4) (.c (bq 1 4) (.r 12 (z49 (x.c0) (x.c1) s12_0) (.c (bq 2 4) (.c (bq 3 4) (.r 19 (z49 (x.c2) (x.c3) s19_0) (.b 25 h1 (.b 29 h2 .nil))))))))) (by kernel_rfl)
theorem znU(x:K)(h1:(sg2 x.c0 x.c1==sg2 x.c2 x.c3)=false)(h2:(sg2 x.c2 x.c3==0)=false)(h3:(sg2 x.c0 x.c1==0)=true)(s3_0:x.sz≤1000000)(s12_0:z5z x.c0 x.c1)(s19_0:z5z x.c2 x.c3):PCall P 71 [Z4 x] (.lit (.int .i64 (sg2 x.c2 x.c3))):=
 j3 (.r 3 (z0A (x) s3_0) (.c (bq 0 4) (.c (bq 1 4) (.r 12 (z49 (x.c0) (x.c1) s12_0) (.c (bq 2 4) (.c (bq 3 4) (.r 19 (z49 (x.c2) (x.c3) s19_0) (.b 25 h1 (.b 29 h2 (.b 32 h3 .nil)))))))))) (by kernel_rfl)
theorem znD(x:K)(h1:(sg2 x.c0 x.c1==sg2 x.c2 x.c3)=false)(h2:(sg2 x.c2 x.c3==0)=false)(h3:(sg2 x.c0 x.c1==0)=false)(s3_0:x.sz≤1000000)(s12_0:z5z x.c0 x.c1)(s19_0:z5z x.c2 x.c3)(s47_0:Two x.c0 x.c1)(s64_0:Two x.c2 x.c3)(s67_0:(-9223372036854775808:Int)≤3∧(3:Int)≤9223372036854775807)(s76_0:Two (3:Int) (x.c2*x.c2+2*(x.c3*x.c3)))(s77_0:Two (x.c0*x.c0+2*(x.c1*x.c1)) ((3:Int)*(x.c2*x.c2+2*(x.c3*x.c3))))(s83_0:Two (3:Int) ((2:Int)*(x.c2*x.c3)))(s84_0:Two ((2:Int)*(x.c0*x.c1)) ((3:Int)*((2:Int)*(x.c2*x.c3))))(s85_0:z5z (x.c0*x.c0+2*(x.c1*x.c1)-3*(x.c2*x.c2+2*(x.c3*x.c3))) ((2:Int)*(x.c0*x.c1)-3*((2:Int)*(x.c2*x.c3)))):PCall P 71 [Z4 x] (.lit (.int .i64 (i64.wrap (sg2 x.c0 x.c1*sg2 (x.c0*x.c0+2*(x.c1*x.c1)-3*(x.c2*x.c2+2*(x.c3*x.c3))) ((2:Int)*(x.c0*x.c1)-3*((2:Int)*(x.c2*x.c3))))))):=
 j3 (.r 3 (z0A (x) s3_0) (.c (bq 0 4) (.c (bq 1 4) (.r 12 (z49 (x.c0) (x.c1) s12_0) (.c (bq 2 4) (.c (bq 3 4) (.r 19 (z49 (x.c2) (x.c3) s19_0) (.b 25 h1 (.b 29 h2 (.b 32 h3 (.c (bq 0 4) (.c (bq 1 4) (.c (bq 0 4) (.c (bq 1 4) (.r 47 (za5 (x.c0) (x.c1) s47_0) (.c (lq 8 8) (.c (bq 2 4) (.c (bq 3 4) (.c (bq 2 4) (.c (bq 3 4) (.r 64 (za5 (x.c2) (x.c3) s64_0) (.c (lq 8 8) (.r 67 (W7 ((3:Int)) s67_0) (.c (lq 2 2) (.c (bq 0 4) (.c (bq 0 4) (.r 76 (z9U (3) (x.c2*x.c2+2*(x.c3*x.c3)) s76_0) (.r 77 (zhA (x.c0*x.c0+2*(x.c1*x.c1)) ((3:Int)*(x.c2*x.c2+2*(x.c3*x.c3))) s77_0) (.c (bq 1 4) (.c (bq 1 4) (.r 83 (z9U (3) ((2:Int)*(x.c2*x.c3)) s83_0) (.r 84 (zhA ((2:Int)*(x.c0*x.c1)) ((3:Int)*((2:Int)*(x.c2*x.c3))) s84_0) (.r 85 (z49 (x.c0*x.c0+2*(x.c1*x.c1)-3*(x.c2*x.c2+2*(x.c3*x.c3))) ((2:Int)*(x.c0*x.c1)-3*((2:Int)*(x.c2*x.c3))) s85_0) .nil))))))))))))))))))))))))))))))))) (by kernel_rfl)
theorem zkR(x:RN)(g:x.ok=false)(s3_0:RN.raw 1000000 x=true):PCall P 71 [x.c] (.lit (.int .i64 0)):=
 j3 (.r 3 ((z0g (x) s3_0).eqB g) .nil) (by kernel_rfl)
end Go.Fw
open Go
namespace Go.Fw
set_option maxRecDepth 100000
theorem z9F(x:K)(hx:x.sz≤1000000):PCall P 71 [Z4 x] (j4 (K.sgn x)):=by
 obtain⟨x0,x1,x2,x3,_⟩:=By.of_sz hx
 have t01:z5z x.c0 x.c1:=⟨_,by decide,x0,x1⟩
 have t23:z5z x.c2 x.c3:=⟨_,by decide,x2,x3⟩
 have b1:=zaT x.c0 x.c1
 rw[←zeJ]
 unfold zrw
 by_cases h1:sg2 x.c0 x.c1=sg2 x.c2 x.c3
 · rw[z35 (c':=0) (.inl h1)]
   unfold z5n
   rw[if_pos (.inl h1)]
   exact zmu x (by simp[h1]) hx t01 t23
 · by_cases h2:sg2 x.c2 x.c3=0
   · unfold z5n
     rw[if_pos (.inr h2)]
     exact zpf x (beq_false_of_ne h1) (by simp[h2]) hx t01 t23
   · by_cases h3:sg2 x.c0 x.c1=0
     · unfold z5n
       rw[if_neg (fun h=>h.elim h1 h2),if_pos h3]
       exact znU x (beq_false_of_ne h1) (beq_false_of_ne h2) (by simp[h3]) hx t01 t23
     · unfold z5n
       rw[if_neg (fun h=>h.elim h1 h2),if_neg h3]
       obtain⟨N,hN,e⟩: ∃N,N=1000000∧x.sz≤N:=⟨_,rfl,hx⟩
       obtain⟨y0,y1,y2,y3,_⟩:=By.of_sz e
       have k3: ∀{n:Nat},1≤n→By n 3:=fun h=>(show By 1 3 by unfold By;decide).mono h
       have u1:=((y0.mul y0).mono (Nat.le_succ _)).add (y1.mul y1).two
       have u2:=((y2.mul y2).mono (Nat.le_succ _)).add (y3.mul y3).two
       have u3:=u2.k (k:=3) (by decide)
       have v1:=(y0.mul y1).two
       have v2:=(y2.mul y3).two
       have v3:=v2.k (k:=3) (by decide)
       have w1:=(u1.mono (Nat.le_succ _)).sub u3
       have w2:=(v1.mono (Nat.le_succ _)).sub v3
       have h:=znD x (beq_false_of_ne h1) (beq_false_of_ne h2) (beq_false_of_ne h3) hx t01 t23 ⟨N,by omega,y0,y1⟩ ⟨N,by omega,y2,y3⟩ (by decide) ⟨_,by omega,k3 (by omega),u2⟩ ⟨_,by omega,u1.mono (Nat.le_succ _),u3⟩
        ⟨_,by omega,k3 (by omega),v2⟩ ⟨_,by omega,v1.mono (Nat.le_succ _),v3⟩ ⟨_,by omega,w1,w2.mono (by omega)⟩
       rw[show(1:Int)*(x.c0*x.c0)+2*(x.c1*x.c1)-(3*(x.c2*x.c2)+6*(x.c3*x.c3))=x.c0*x.c0+2*(x.c1*x.c1)-3*(x.c2*x.c2+2*(x.c3*x.c3)) by grind,
        show 2*(x.c0*x.c1)-6*(x.c2*x.c3)=2*(x.c0*x.c1)-3*(2*(x.c2*x.c3)) by grind]
       have s2:=zaT (x.c0*x.c0+2*(x.c1*x.c1)-3*(x.c2*x.c2+2*(x.c3*x.c3))) (2*(x.c0*x.c1)-3*(2*(x.c2*x.c3)))
       generalize sg2 (x.c0*x.c0+2*(x.c1*x.c1)-3*(x.c2*x.c2+2*(x.c3*x.c3))) (2*(x.c0*x.c1)-3*(2*(x.c2*x.c3)))=t at*
       have hw:IntKind.i64.wrap (sg2 x.c0 x.c1*t)=sg2 x.c0 x.c1*t:=by
        have:sg2 x.c0 x.c1= -1∨sg2 x.c0 x.c1=1:=by omega
        rcases this with h|h<;>rw[h]<;>exact w64 (by omega)
       rw[hw]at h
       exact h
theorem z0L(x:RN)(hx:x.raw 1000000=true):PCall P 71 [x.c] (j4 (z0a x)):=by
 unfold z0a
 cases ex:toO x with
 |none=>exact zkR x (z01 ex) hx
 |some k=>
  have a:=z0P ex hx
  rw[z94 (z0O ex).2]
  exact z9F k a
end Go.Fw
open Go
namespace Go.Fw
set_option maxRecDepth 100000
theorem zgy(a b c d:Int)(h: ∃n,1≤n∧n≤500000000∧By4 n a b c d):PCall P 130 [.agg [.lit (.bool false),.lit (.string (bytesOf 1)),.lit (.bool false),.lit (.string ⟨#[]⟩),.lit (.bool false),.lit (.string ⟨#[]⟩),.lit (.bool false),.lit (.string ⟨#[]⟩)],c4C a b c d] (c4C a b c d):=by
 obtain⟨n,h1,hn,hb⟩:=h
 have z:By n 0:=by unfold By;exact Nat.pow_pos (by decide)
 have o:By n 1:=(show By 1 1 by unfold By;decide).mono h1
 have:=z4k 1 0 0 0 a b c d ⟨n,hn,⟨o,z,z,z⟩,hb⟩
 rw[show 1*a+2*0*b+3*0*c+6*0*d=a by omega,show 1*b+0*a+3*0*d+3*0*c=b by omega,show 1*c+0*a+2*0*d+2*0*b=c by omega,show 1*d+0*a+0*c+0*b=d by omega]at this
 exact this
structure Q4 where
 a:Int
 b:Int
 c:Int
 d:Int
namespace Q4
def mul(x y:Q4):Q4:=⟨x.a*y.a+2*x.b*y.b+3*x.c*y.c+6*x.d*y.d,x.a*y.b+x.b*y.a+3*x.c*y.d+3*x.d*y.c,x.a*y.c+x.c*y.a+2*x.b*y.d+2*x.d*y.b,x.a*y.d+x.d*y.a+x.b*y.c+x.c*y.b⟩
def Sm(n:Nat)(x:Q4):Prop:=By4 n x.a x.b x.c x.d
end Q4
noncomputable def Y4(x y:Q4):Q4:=Classical.choose (⟨Q4.mul x y,rfl⟩: ∃z,z=Q4.mul x y)
theorem z65(x y:Q4):Y4 x y=Q4.mul x y:=Classical.choose_spec (⟨Q4.mul x y,rfl⟩: ∃z,z=Q4.mul x y)
theorem z7Q (a0 a1 a2 a3 b0 b1 b2 b3 : Int) (hp : ∃ n, n ≤ 500000000 ∧ Q4.Sm n ⟨a0, a1, a2, a3⟩ ∧ Q4.Sm n ⟨b0, b1, b2, b3⟩) : PCall P 130 [c4C a0 a1 a2 a3, c4C b0 b1 b2 b3]
    (c4C (Y4 ⟨a0,a1,a2,a3⟩ ⟨b0,b1,b2,b3⟩).a (Y4 ⟨a0,a1,a2,a3⟩ ⟨b0,b1,b2,b3⟩).b (Y4 ⟨a0,a1,a2,a3⟩ ⟨b0,b1,b2,b3⟩).c (Y4 ⟨a0,a1,a2,a3⟩ ⟨b0,b1,b2,b3⟩).d):=by
 rw[z65]
 exact z4k a0 a1 a2 a3 b0 b1 b2 b3 hp
theorem zfm (A : Q4) (b0 b1 b2 b3 : Int) (hp : ∃ n, n ≤ 500000000 ∧ Q4.Sm n A ∧ Q4.Sm n ⟨b0, b1, b2, b3⟩) : PCall P 130 [c4C A.a A.b A.c A.d, c4C b0 b1 b2 b3]
    (c4C (Y4 A ⟨b0,b1,b2,b3⟩).a (Y4 A ⟨b0,b1,b2,b3⟩).b (Y4 A ⟨b0,b1,b2,b3⟩).c (Y4 A ⟨b0,b1,b2,b3⟩).d):=z7Q A.a A.b A.c A.d b0 b1 b2 b3 hp
theorem zaV (a0 a1 a2 a3 : Int) (B : Q4) (hp : ∃ n, n ≤ 500000000 ∧ Q4.Sm n ⟨a0, a1, a2, a3⟩ ∧ Q4.Sm n B) : PCall P 130 [c4C a0 a1 a2 a3, c4C B.a B.b B.c B.d]
    (c4C (Y4 ⟨a0,a1,a2,a3⟩ B).a (Y4 ⟨a0,a1,a2,a3⟩ B).b (Y4 ⟨a0,a1,a2,a3⟩ B).c (Y4 ⟨a0,a1,a2,a3⟩ B).d):=z7Q a0 a1 a2 a3 B.a B.b B.c B.d hp
end Go.Fw
