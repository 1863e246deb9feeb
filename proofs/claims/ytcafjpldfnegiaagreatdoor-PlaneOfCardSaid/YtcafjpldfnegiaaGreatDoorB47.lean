/- A part of the proof that the law returns true for every input: an executor for the model's code, and what functions of the program compute. -/
import Derived.Test.YtcafjpldfnegiaaGreatDoorB11
import Derived.Test.YtcafjpldfnegiaaGreatDoorB15
import Derived.Test.YtcafjpldfnegiaaGreatDoorB37
import Derived.Test.YtcafjpldfnegiaaGreatDoorB42
import Derived.Test.YtcafjpldfnegiaaGreatDoorB43
import Derived.Test.YtcafjpldfnegiaaGreatDoorB44
import Derived.Test.YtcafjpldfnegiaaGreatDoorB45
import Derived.Test.YtcafjpldfnegiaaGreatDoorB46
import Derived.KernelRfl
open Go IntKind
namespace Go.Fw
set_option maxRecDepth 100000
theorem zfw(x y:K)(g:(y.sgn==0)=false)(s5_0:x.sz≤1000000)(s9_0 s15_0:y.sz≤1000000)(s19_0:(-9223372036854775808:Int)≤1∧(1:Int)≤9223372036854775807)(s125_0: ∃n,1≤n∧n≤500000000∧By4 n y.c0 (-y.c1) y.c2 (-y.c3))(s231_0: ∃n,n≤500000000∧Q4.Sm n {a:=y.c0,b:= -y.c1,c:=y.c2,d:= -y.c3}∧Q4.Sm n {a:=y.c0,b:=y.c1,c:= -y.c2,d:= -y.c3})(s337_0: ∃n,n≤500000000∧Q4.Sm n (Y4 {a:=y.c0,b:= -y.c1,c:=y.c2,d:= -y.c3} {a:=y.c0,b:=y.c1,c:= -y.c2,d:= -y.c3})∧Q4.Sm n {a:=y.c0,b:= -y.c1,c:= -y.c2,d:=y.c3})(s349_0: ∃n,n≤500000000∧Q4.Sm n {a:=y.c0,b:=y.c1,c:=y.c2,d:=y.c3}∧Q4.Sm n (Y4 (Y4 {a:=y.c0,b:= -y.c1,c:=y.c2,d:= -y.c3} {a:=y.c0,b:=y.c1,c:= -y.c2,d:= -y.c3}) {a:=y.c0,b:= -y.c1,c:= -y.c2,d:=y.c3}))(s355_0: ∃n,n≤500000000∧Q4.Sm n {a:=x.c0,b:=x.c1,c:=x.c2,d:=x.c3}∧Q4.Sm n (Y4 (Y4 {a:=y.c0,b:= -y.c1,c:=y.c2,d:= -y.c3} {a:=y.c0,b:=y.c1,c:= -y.c2,d:= -y.c3}) {a:=y.c0,b:= -y.c1,c:= -y.c2,d:=y.c3}))(s369_0:Two (Y4 {a:=x.c0,b:=x.c1,c:=x.c2,d:=x.c3} (Y4 (Y4 {a:=y.c0,b:= -y.c1,c:=y.c2,d:= -y.c3} {a:=y.c0,b:=y.c1,c:= -y.c2,d:= -y.c3}) {a:=y.c0,b:= -y.c1,c:= -y.c2,d:=y.c3})).a y.d)(s385_0:Two (Y4 {a:=x.c0,b:=x.c1,c:=x.c2,d:=x.c3} (Y4 (Y4 {a:=y.c0,b:= -y.c1,c:=y.c2,d:= -y.c3} {a:=y.c0,b:=y.c1,c:= -y.c2,d:= -y.c3}) {a:=y.c0,b:= -y.c1,c:= -y.c2,d:=y.c3})).b y.d)(s401_0:Two (Y4 {a:=x.c0,b:=x.c1,c:=x.c2,d:=x.c3} (Y4 (Y4 {a:=y.c0,b:= -y.c1,c:=y.c2,d:= -y.c3} {a:=y.c0,b:=y.c1,c:= -y.c2,d:= -y.c3}) {a:=y.c0,b:= -y.c1,c:= -y.c2,d:=y.c3})).c y.d)(s417_0:Two (Y4 {a:=x.c0,b:=x.c1,c:=x.c2,d:=x.c3} (Y4 (Y4 {a:=y.c0,b:= -y.c1,c:=y.c2,d:= -y.c3} {a:=y.c0,b:=y.c1,c:= -y.c2,d:= -y.c3}) {a:=y.c0,b:= -y.c1,c:= -y.c2,d:=y.c3})).d y.d)(s432_0:Two (Y4 {a:=y.c0,b:=y.c1,c:=y.c2,d:=y.c3} (Y4 (Y4 {a:=y.c0,b:= -y.c1,c:=y.c2,d:= -y.c3} {a:=y.c0,b:=y.c1,c:= -y.c2,d:= -y.c3}) {a:=y.c0,b:= -y.c1,c:= -y.c2,d:=y.c3})).a x.d)(s433_0:(Y4 {a:=y.c0,b:=y.c1,c:=y.c2,d:=y.c3} (Y4 (Y4 {a:=y.c0,b:= -y.c1,c:=y.c2,d:= -y.c3} {a:=y.c0,b:=y.c1,c:= -y.c2,d:= -y.c3}) {a:=y.c0,b:= -y.c1,c:= -y.c2,d:=y.c3})).a*x.d≠0)(s433_1:SmlZ ((Y4 {a:=x.c0,b:=x.c1,c:=x.c2,d:=x.c3} (Y4 (Y4 {a:=y.c0,b:= -y.c1,c:=y.c2,d:= -y.c3} {a:=y.c0,b:=y.c1,c:= -y.c2,d:= -y.c3}) {a:=y.c0,b:= -y.c1,c:= -y.c2,d:=y.c3})).a*y.d))(s433_2:SmlZ ((Y4 {a:=x.c0,b:=x.c1,c:=x.c2,d:=x.c3} (Y4 (Y4 {a:=y.c0,b:= -y.c1,c:=y.c2,d:= -y.c3} {a:=y.c0,b:=y.c1,c:= -y.c2,d:= -y.c3}) {a:=y.c0,b:= -y.c1,c:= -y.c2,d:=y.c3})).b*y.d))(s433_3:SmlZ ((Y4 {a:=x.c0,b:=x.c1,c:=x.c2,d:=x.c3} (Y4 (Y4 {a:=y.c0,b:= -y.c1,c:=y.c2,d:= -y.c3} {a:=y.c0,b:=y.c1,c:= -y.c2,d:= -y.c3}) {a:=y.c0,b:= -y.c1,c:= -y.c2,d:=y.c3})).c*y.d))(s433_4:SmlZ ((Y4 {a:=x.c0,b:=x.c1,c:=x.c2,d:=x.c3} (Y4 (Y4 {a:=y.c0,b:= -y.c1,c:=y.c2,d:= -y.c3} {a:=y.c0,b:=y.c1,c:= -y.c2,d:= -y.c3}) {a:=y.c0,b:= -y.c1,c:= -y.c2,d:=y.c3})).d*y.d))(s433_5:SmlZ ((Y4 {a:=y.c0,b:=y.c1,c:=y.c2,d:=y.c3} (Y4 (Y4 {a:=y.c0,b:= -y.c1,c:=y.c2,d:= -y.c3} {a:=y.c0,b:=y.c1,c:= -y.c2,d:= -y.c3}) {a:=y.c0,b:= -y.c1,c:= -y.c2,d:=y.c3})).a*x.d)):PCall P 161 [Z4 x,Z4 y] (.tup [Z4 (K.of ((Y4 {a:=x.c0,b:=x.c1,c:=x.c2,d:=x.c3} (Y4 (Y4 {a:=y.c0,b:= -y.c1,c:=y.c2,d:= -y.c3} {a:=y.c0,b:=y.c1,c:= -y.c2,d:= -y.c3}) {a:=y.c0,b:= -y.c1,c:= -y.c2,d:=y.c3})).a*y.d) ((Y4 {a:=x.c0,b:=x.c1,c:=x.c2,d:=x.c3} (Y4 (Y4 {a:=y.c0,b:= -y.c1,c:=y.c2,d:= -y.c3} {a:=y.c0,b:=y.c1,c:= -y.c2,d:= -y.c3}) {a:=y.c0,b:= -y.c1,c:= -y.c2,d:=y.c3})).b*y.d) ((Y4 {a:=x.c0,b:=x.c1,c:=x.c2,d:=x.c3} (Y4 (Y4 {a:=y.c0,b:= -y.c1,c:=y.c2,d:= -y.c3} {a:=y.c0,b:=y.c1,c:= -y.c2,d:= -y.c3}) {a:=y.c0,b:= -y.c1,c:= -y.c2,d:=y.c3})).c*y.d) ((Y4 {a:=x.c0,b:=x.c1,c:=x.c2,d:=x.c3} (Y4 (Y4 {a:=y.c0,b:= -y.c1,c:=y.c2,d:= -y.c3} {a:=y.c0,b:=y.c1,c:= -y.c2,d:= -y.c3}) {a:=y.c0,b:= -y.c1,c:= -y.c2,d:=y.c3})).d*y.d) ((Y4 {a:=y.c0,b:=y.c1,c:=y.c2,d:=y.c3} (Y4 (Y4 {a:=y.c0,b:= -y.c1,c:=y.c2,d:= -y.c3} {a:=y.c0,b:=y.c1,c:= -y.c2,d:= -y.c3}) {a:=y.c0,b:= -y.c1,c:= -y.c2,d:=y.c3})).a*x.d)),.lit (.int .i64 0)]):=
 j3 (.r 5 (z0A (x) s5_0) (.r 9 (z0A (y) s9_0) (.r 15 (z9F (y) s15_0) (.b 18 g (.r 19 (W7 ((1:Int)) s19_0) (.c (lq 8 8) (.c (lq 8 8) (.c (bq 1 4) (.r 70 (U0 (y.c1)) (.c (bq 1 4) (.c (lq 4 8) (.c (bq 3 4) (.r 113 (U0 (y.c3)) (.c (bq 3 4) (.c (lq 8 8) (.r 125 (zgy (y.c0) (-y.c1) (y.c2) (-y.c3) s125_0) (.c (lq 8 8) (.c (lq 8 8) (.c (bq 2 4) (.r 194 (U0 (y.c2)) (.c (bq 2 4) (.c (lq 6 8) (.c (bq 3 4) (.r 219 (U0 (y.c3)) (.c (bq 3 4) (.c (lq 8 8) (.r 231 (z7Q (y.c0) (-y.c1) (y.c2) (-y.c3) (y.c0) (y.c1) (-y.c2) (-y.c3) s231_0) (.c (lq 8 8) (.c (lq 8 8) (.c (bq 1 4) (.r 282 (U0 (y.c1)) (.c (bq 1 4) (.c (lq 4 8) (.c (bq 2 4) (.r 307 (U0 (y.c2)) (.c (bq 2 4) (.c (lq 6 8) (.r 337 (zfm (Y4 {a:=y.c0,b:= -y.c1,c:=y.c2,d:= -y.c3} {a:=y.c0,b:=y.c1,c:= -y.c2,d:= -y.c3}) (y.c0) (-y.c1) (-y.c2) (y.c3) s337_0) (.c (lq 8 8) (.r 349 (zaV (y.c0) (y.c1) (y.c2) (y.c3) (Y4 (Y4 {a:=y.c0,b:= -y.c1,c:=y.c2,d:= -y.c3} {a:=y.c0,b:=y.c1,c:= -y.c2,d:= -y.c3}) {a:=y.c0,b:= -y.c1,c:= -y.c2,d:=y.c3}) s349_0) (.c (lq 8 8) (.r 355 (zaV (x.c0) (x.c1) (x.c2) (x.c3) (Y4 (Y4 {a:=y.c0,b:= -y.c1,c:=y.c2,d:= -y.c3} {a:=y.c0,b:=y.c1,c:= -y.c2,d:= -y.c3}) {a:=y.c0,b:= -y.c1,c:= -y.c2,d:=y.c3}) s355_0) (.c (lq 8 8) (.c (bq 0 4) (.r 369 (z5j ((Y4 {a:=x.c0,b:=x.c1,c:=x.c2,d:=x.c3} (Y4 (Y4 {a:=y.c0,b:= -y.c1,c:=y.c2,d:= -y.c3} {a:=y.c0,b:=y.c1,c:= -y.c2,d:= -y.c3}) {a:=y.c0,b:= -y.c1,c:= -y.c2,d:=y.c3})).a) (y.d) s369_0) (.c (bq 0 4) (.c (lq 2 8) (.c (bq 1 4) (.r 385 (z5j ((Y4 {a:=x.c0,b:=x.c1,c:=x.c2,d:=x.c3} (Y4 (Y4 {a:=y.c0,b:= -y.c1,c:=y.c2,d:= -y.c3} {a:=y.c0,b:=y.c1,c:= -y.c2,d:= -y.c3}) {a:=y.c0,b:= -y.c1,c:= -y.c2,d:=y.c3})).b) (y.d) s385_0) (.c (bq 1 4) (.c (lq 4 8) (.c (bq 2 4) (.r 401 (z5j ((Y4 {a:=x.c0,b:=x.c1,c:=x.c2,d:=x.c3} (Y4 (Y4 {a:=y.c0,b:= -y.c1,c:=y.c2,d:= -y.c3} {a:=y.c0,b:=y.c1,c:= -y.c2,d:= -y.c3}) {a:=y.c0,b:= -y.c1,c:= -y.c2,d:=y.c3})).c) (y.d) s401_0) (.c (bq 2 4) (.c (lq 6 8) (.c (bq 3 4) (.r 417 (z5j ((Y4 {a:=x.c0,b:=x.c1,c:=x.c2,d:=x.c3} (Y4 (Y4 {a:=y.c0,b:= -y.c1,c:=y.c2,d:= -y.c3} {a:=y.c0,b:=y.c1,c:= -y.c2,d:= -y.c3}) {a:=y.c0,b:= -y.c1,c:= -y.c2,d:=y.c3})).d) (y.d) s417_0) (.c (bq 3 4) (.c (lq 8 8) (.c (bq 0 4) (.r 432 (z5j ((Y4 {a:=y.c0,b:=y.c1,c:=y.c2,d:=y.c3} (Y4 (Y4 {a:=y.c0,b:= -y.c1,c:=y.c2,d:= -y.c3} {a:=y.c0,b:=y.c1,c:= -y.c2,d:= -y.c3}) {a:=y.c0,b:= -y.c1,c:= -y.c2,d:=y.c3})).a) (x.d) s432_0) (.r 433 (z8X ((Y4 {a:=x.c0,b:=x.c1,c:=x.c2,d:=x.c3} (Y4 (Y4 {a:=y.c0,b:= -y.c1,c:=y.c2,d:= -y.c3} {a:=y.c0,b:=y.c1,c:= -y.c2,d:= -y.c3}) {a:=y.c0,b:= -y.c1,c:= -y.c2,d:=y.c3})).a*y.d) ((Y4 {a:=x.c0,b:=x.c1,c:=x.c2,d:=x.c3} (Y4 (Y4 {a:=y.c0,b:= -y.c1,c:=y.c2,d:= -y.c3} {a:=y.c0,b:=y.c1,c:= -y.c2,d:= -y.c3}) {a:=y.c0,b:= -y.c1,c:= -y.c2,d:=y.c3})).b*y.d) ((Y4 {a:=x.c0,b:=x.c1,c:=x.c2,d:=x.c3} (Y4 (Y4 {a:=y.c0,b:= -y.c1,c:=y.c2,d:= -y.c3} {a:=y.c0,b:=y.c1,c:= -y.c2,d:= -y.c3}) {a:=y.c0,b:= -y.c1,c:= -y.c2,d:=y.c3})).c*y.d) ((Y4 {a:=x.c0,b:=x.c1,c:=x.c2,d:=x.c3} (Y4 (Y4 {a:=y.c0,b:= -y.c1,c:=y.c2,d:= -y.c3} {a:=y.c0,b:=y.c1,c:= -y.c2,d:= -y.c3}) {a:=y.c0,b:= -y.c1,c:= -y.c2,d:=y.c3})).d*y.d) ((Y4 {a:=y.c0,b:=y.c1,c:=y.c2,d:=y.c3} (Y4 (Y4 {a:=y.c0,b:= -y.c1,c:=y.c2,d:= -y.c3} {a:=y.c0,b:=y.c1,c:= -y.c2,d:= -y.c3}) {a:=y.c0,b:= -y.c1,c:= -y.c2,d:=y.c3})).a*x.d) s433_0 s433_1 s433_2 s433_3 s433_4 s433_5) (.c (lq 10 10) .nil))))))))))))))))))))))))))))))))))))))))))))))))))))))))))))))) (by kernel_rfl)
end Go.Fw
open Go
namespace Go.Fw
set_option maxRecDepth 100000
def oq(A:Q4)(d:Int):K:=K.of A.a A.b A.c A.d d
theorem zb1{A B:Q4}{d e:Int}(hd:d≠0)(he:e≠0):oq A d*oq B e=oq (Q4.mul A B) (d*e):=K.mul_of hd he
def qK(x:K):Q4:=⟨x.c0,x.c1,x.c2,x.c3⟩
theorem zkO(x:K):oq (qK x) x.d=x:=K.of_self x
def cj1(y:Q4):Q4:=⟨y.a,-y.b,y.c,-y.d⟩
def cj2(y:Q4):Q4:=⟨y.a,y.b,-y.c,-y.d⟩
def cj3(y:Q4):Q4:=⟨y.a,-y.b,-y.c,y.d⟩
def z13(y:Q4):Q4:=Q4.mul (Q4.mul (cj1 y) (cj2 y)) (cj3 y)
theorem zad(y:Q4):(Q4.mul y (z13 y)).b=0∧(Q4.mul y (z13 y)).c=0∧(Q4.mul y (z13 y)).d=0:=by
 obtain⟨a,b,c,d⟩:=y
 refine⟨?_,?_,?_⟩
 · show a*_+b*_+3*c*_+3*d*_=0
   simp only[z13,Q4.mul,cj1,cj2,cj3]
   grind
 · show a*_+c*_+2*b*_+2*d*_=0
   simp only[z13,Q4.mul,cj1,cj2,cj3]
   grind
 · show a*_+d*_+b*_+c*_=0
   simp only[z13,Q4.mul,cj1,cj2,cj3]
   grind
theorem zo2(x y c:Q4):Q4.mul y (Q4.mul x c)=Q4.mul x (Q4.mul y c):=by
 obtain⟨a,b,e,d⟩:=x
 obtain⟨a',b',e',d'⟩:=y
 obtain⟨p,q,r,s⟩:=c
 simp only[Q4.mul,Q4.mk.injEq]
 refine⟨?_,?_,?_,?_⟩<;>grind
theorem zaW{A:Q4}(h:oq A 1=0):A.a=0∧A.b=0∧A.c=0∧A.d=0:=by
 obtain⟨s,_,h0,h1,h2,h3,_⟩:=K.of_spec A.a A.b A.c A.d (d:=1) (by decide)
 have e:K.of A.a A.b A.c A.d 1=0:=h
 rw[e]at h0 h1 h2 h3
 exact⟨h0.trans (Int.mul_zero s),h1.trans (Int.mul_zero s),h2.trans (Int.mul_zero s),h3.trans (Int.mul_zero s)⟩
theorem za2{y:K}(h0:y.c0=0)(h1:y.c1=0)(h2:y.c2=0)(h3:y.c3=0):y=0:=by
 refine K.cross ?_ ?_ ?_ ?_
 · rw[h0,Int.zero_mul];exact(Int.zero_mul y.d).symm
 · rw[h1,Int.zero_mul];exact(Int.zero_mul y.d).symm
 · rw[h2,Int.zero_mul];exact(Int.zero_mul y.d).symm
 · rw[h3,Int.zero_mul];exact(Int.zero_mul y.d).symm
theorem z9P{x y:K}(hx:x≠0)(hy:y≠0):x*y≠0:=fun e=>by
 have:K.sgn (x*y)=0:=K.sgn_zero.2 e
 rw[K.sgn_mul]at this
 rcases Int.mul_eq_zero.1 this with h|h
 · exact hx (K.sgn_zero.1 h)
 · exact hy (K.sgn_zero.1 h)
theorem zeL(y:Q4):oq (Q4.mul y (z13 y)) 1=oq y 1*((oq (cj1 y) 1*oq (cj2 y) 1)*oq (cj3 y) 1):=by
 have o:(1:Int)≠0:=by decide
 have e1:oq (cj1 y) 1*oq (cj2 y) 1=oq (Q4.mul (cj1 y) (cj2 y)) 1:=zb1 o o
 have e2:oq (Q4.mul (cj1 y) (cj2 y)) 1*oq (cj3 y) 1=oq (z13 y) 1:=zb1 o o
 have e3:oq y 1*oq (z13 y) 1=oq (Q4.mul y (z13 y)) 1:=zb1 o o
 rw[e1,e2,e3]
theorem ze1{y:K}(h:y≠0):(Q4.mul (qK y) (z13 (qK y))).a≠0:=by
 intro e
 obtain⟨h1,h2,h3⟩:=zad (qK y)
 have z:oq (Q4.mul (qK y) (z13 (qK y))) 1=0:=by
  unfold oq
  rw[e,h1,h2,h3];kernel_rfl
 rw[zeL]at z
 have n0:oq (qK y) 1≠0:=fun z=>by obtain⟨a,b,c,d⟩:=zaW z;exact h (za2 a b c d)
 have n1:oq (cj1 (qK y)) 1≠0:=fun z=>by obtain⟨a,b,c,d⟩:=zaW z;exact h (za2 a (Int.neg_eq_zero.1 b) c (Int.neg_eq_zero.1 d))
 have n2:oq (cj2 (qK y)) 1≠0:=fun z=>by obtain⟨a,b,c,d⟩:=zaW z;exact h (za2 a b (Int.neg_eq_zero.1 c) (Int.neg_eq_zero.1 d))
 have n3:oq (cj3 (qK y)) 1≠0:=fun z=>by obtain⟨a,b,c,d⟩:=zaW z;exact h (za2 a (Int.neg_eq_zero.1 b) (Int.neg_eq_zero.1 c) d)
 exact z9P n0 (z9P (z9P n1 n2) n3) z
def z3l(A:Q4)(k:Int):Q4:=⟨A.a*k,A.b*k,A.c*k,A.d*k⟩
theorem zs5{x n:Q4}(h1:n.b=0)(h2:n.c=0)(h3:n.d=0):Q4.mul x n=z3l x n.a:=by
 obtain⟨a,b,c,d⟩:=x
 obtain⟨p,q,r,s⟩:=n
 simp only at h1 h2 h3
 subst h1 h2 h3
 simp only[Q4.mul,z3l,Q4.mk.injEq]
 refine⟨?_,?_,?_,?_⟩<;>grind
theorem z9b(x y:Q4)(k:Int):Q4.mul x (z3l y k)=z3l (Q4.mul x y) k:=by
 obtain⟨a,b,c,d⟩:=x
 obtain⟨p,q,r,s⟩:=y
 simp only[Q4.mul,z3l,Q4.mk.injEq]
 refine⟨?_,?_,?_,?_⟩<;>grind
theorem zju{x y:K}(h:y≠0):oq (z3l (Q4.mul (qK x) (z13 (qK y))) y.d) ((Q4.mul (qK y) (z13 (qK y))).a*x.d)=K.div x y:=by
 have hN:=ze1 h
 have yd:y.d≠0:=by have:=y.pos;omega
 have xd:x.d≠0:=by have:=x.pos;omega
 have hE:(Q4.mul (qK y) (z13 (qK y))).a*x.d≠0:=fun e=>by
  rcases Int.mul_eq_zero.1 e with e|e
  · exact hN e
  · exact xd e
 refine(K.div_eq h ?_).symm
 obtain⟨h1,h2,h3⟩:=zad (qK y)
 have e1:y*oq (z3l (Q4.mul (qK x) (z13 (qK y))) y.d) ((Q4.mul (qK y) (z13 (qK y))).a*x.d)=oq (Q4.mul (qK y) (z3l (Q4.mul (qK x) (z13 (qK y))) y.d)) (y.d*((Q4.mul (qK y) (z13 (qK y))).a*x.d)):=by
  have:=zb1 (A:=qK y) (B:=z3l (Q4.mul (qK x) (z13 (qK y))) y.d) yd hE
  rw[zkO]at this
  exact this
 rw[e1,z9b,zo2,zs5 h1 h2 h3]
 generalize (Q4.mul (qK y) (z13 (qK y))).a=N at*
 have:=K.of_scale (s:=y.d*N) (a0:=x.c0) (a1:=x.c1) (a2:=x.c2) (a3:=x.c3) (d:=x.d) (fun e=>by
  rcases Int.mul_eq_zero.1 e with e|e
  · exact yd e
  · exact hN e) xd
 rw[K.of_self]at this
 refine Eq.trans ?_ this
 show K.of (x.c0*N*y.d) (x.c1*N*y.d) (x.c2*N*y.d) (x.c3*N*y.d) (y.d*(N*x.d))=_
 have c: ∀t:Int,t*N*y.d=y.d*N*t:=fun t=>by grind
 rw[c,c,c,c,show y.d*(N*x.d)=y.d*N*x.d by grind]
end Go.Fw
open Go
namespace Go.Fw
set_option maxRecDepth 100000
theorem Q4.Sm.mono{n m:Nat}{x:Q4}(h:Q4.Sm n x)(k:n≤m):Q4.Sm m x:=⟨h.1.mono k,h.2.1.mono k,h.2.2.1.mono k,h.2.2.2.mono k⟩
theorem Q4.Sm.mul{n m:Nat}{x y:Q4}(h:Q4.Sm n x)(k:Q4.Sm m y):Q4.Sm (n+m+4) (Q4.mul x y):=by
 obtain⟨h0,h1,h2,h3⟩:=h
 obtain⟨k0,k1,k2,k3⟩:=k
 have p: ∀{a b:Int},By n a→By m b→By (n+m+1) (a*b):=fun u v=>(u.mul v).mono (by omega)
 have q: ∀{a b:Int} (f:Int),-100≤f∧f≤100→By n a→By m b→By (n+m+1) (f*a*b):=fun f hf u v=>by
  have:=(u.mul v).k hf
  rwa[←Int.mul_assoc]at this
 have s: ∀{a b c d:Int},By (n+m+1) a→By (n+m+1) b→By (n+m+1) c→By (n+m+1) d→By (n+m+4) (a+b+c+d):=fun a b c d=>
  ((a.add b).add (c.mono (by omega))).add (d.mono (by omega))
 exact⟨s (p h0 k0) (q 2 (by decide) h1 k1) (q 3 (by decide) h2 k2) (q 6 (by decide) h3 k3),s (p h0 k1) (p h1 k0) (q 3 (by decide) h2 k3) (q 3 (by decide) h3 k2),
  s (p h0 k2) (p h2 k0) (q 2 (by decide) h1 k3) (q 2 (by decide) h3 k1),s (p h0 k3) (p h3 k0) (p h1 k2) (p h2 k1)⟩
theorem zqJ(x y:K)(hx:x.sz≤1000000)(hy:y.sz≤1000000)(h0:K.sgn y≠0):PCall P 161 [Z4 x,Z4 y] (.tup [Z4 (K.div x y),j4 0]):=by
 obtain⟨N,hN,ex,ey⟩: ∃N,N≤1000000∧x.sz≤N∧y.sz≤N:=⟨1000000,Nat.le_refl _,hx,hy⟩
 obtain⟨x0,x1,x2,x3,xd⟩:=By.of_sz ex
 obtain⟨y0,y1,y2,y3,yd⟩:=By.of_sz ey
 have sX:Q4.Sm N (qK x):=⟨x0,x1,x2,x3⟩
 have sY:Q4.Sm N (qK y):=⟨y0,y1,y2,y3⟩
 have s1:Q4.Sm N (cj1 (qK y)):=⟨y0,y1.neg,y2,y3.neg⟩
 have s2:Q4.Sm N (cj2 (qK y)):=⟨y0,y1,y2.neg,y3.neg⟩
 have s3:Q4.Sm N (cj3 (qK y)):=⟨y0,y1.neg,y2.neg,y3⟩
 have t12:=s1.mul s2
 have tC:Q4.Sm (N+N+4+N+4) (z13 (qK y)):=t12.mul s3
 have tN:=sY.mul tC
 have tU:=sX.mul tC
 have ny:y≠0:=fun e=>h0 (K.sgn_zero.2 e)
 have nN:=ze1 ny
 have xd0:x.d≠0:=by have:=x.pos;omega
 have e1:Y4 (cj1 (qK y)) (cj2 (qK y))=Q4.mul (cj1 (qK y)) (cj2 (qK y)):=z65 _ _
 have e2:Y4 (Q4.mul (cj1 (qK y)) (cj2 (qK y))) (cj3 (qK y))=z13 (qK y):=z65 _ _
 have e3:Y4 (qK y) (z13 (qK y))=Q4.mul (qK y) (z13 (qK y)):=z65 _ _
 have e4:Y4 (qK x) (z13 (qK y))=Q4.mul (qK x) (z13 (qK y)):=z65 _ _
 have main:=zfw x y (beq_false_of_ne h0) hx hy hy (by decide)
 change (∃n,1≤n∧n≤500000000∧Q4.Sm n (cj1 (qK y)))→(∃n,n≤500000000∧Q4.Sm n (cj1 (qK y))∧Q4.Sm n (cj2 (qK y)))→(∃n,n≤500000000∧Q4.Sm n (Y4 (cj1 (qK y)) (cj2 (qK y)))∧Q4.Sm n (cj3 (qK y)))→
  (∃n,n≤500000000∧Q4.Sm n (qK y)∧Q4.Sm n (Y4 (Y4 (cj1 (qK y)) (cj2 (qK y))) (cj3 (qK y))))→(∃n,n≤500000000∧Q4.Sm n (qK x)∧Q4.Sm n (Y4 (Y4 (cj1 (qK y)) (cj2 (qK y))) (cj3 (qK y))))→
  Two (Y4 (qK x) (Y4 (Y4 (cj1 (qK y)) (cj2 (qK y))) (cj3 (qK y)))).a y.d→Two (Y4 (qK x) (Y4 (Y4 (cj1 (qK y)) (cj2 (qK y))) (cj3 (qK y)))).b y.d→Two (Y4 (qK x) (Y4 (Y4 (cj1 (qK y)) (cj2 (qK y))) (cj3 (qK y)))).c y.d→Two (Y4 (qK x) (Y4 (Y4 (cj1 (qK y)) (cj2 (qK y))) (cj3 (qK y)))).d y.d→
  Two (Y4 (qK y) (Y4 (Y4 (cj1 (qK y)) (cj2 (qK y))) (cj3 (qK y)))).a x.d→(Y4 (qK y) (Y4 (Y4 (cj1 (qK y)) (cj2 (qK y))) (cj3 (qK y)))).a*x.d≠0→
  SmlZ ((Y4 (qK x) (Y4 (Y4 (cj1 (qK y)) (cj2 (qK y))) (cj3 (qK y)))).a*y.d)→SmlZ ((Y4 (qK x) (Y4 (Y4 (cj1 (qK y)) (cj2 (qK y))) (cj3 (qK y)))).b*y.d)→SmlZ ((Y4 (qK x) (Y4 (Y4 (cj1 (qK y)) (cj2 (qK y))) (cj3 (qK y)))).c*y.d)→SmlZ ((Y4 (qK x) (Y4 (Y4 (cj1 (qK y)) (cj2 (qK y))) (cj3 (qK y)))).d*y.d)→
  SmlZ ((Y4 (qK y) (Y4 (Y4 (cj1 (qK y)) (cj2 (qK y))) (cj3 (qK y)))).a*x.d)→
  PCall P 161 [Z4 x,Z4 y] (.tup [Z4 (oq (z3l (Y4 (qK x) (Y4 (Y4 (cj1 (qK y)) (cj2 (qK y))) (cj3 (qK y)))) y.d) ((Y4 (qK y) (Y4 (Y4 (cj1 (qK y)) (cj2 (qK y))) (cj3 (qK y)))).a*x.d)),j4 0])at main
 rw[e1,e2,e3,e4,zju ny]at main
 have yd':By (N+(N+N+4+N+4)+4) y.d:=yd.mono (by omega)
 have xd':By (N+(N+N+4+N+4)+4) x.d:=xd.mono (by omega)
 have z: ∀{a b:Int},By (N+(N+N+4+N+4)+4) a→By (N+(N+N+4+N+4)+4) b→SmlZ (a*b):=fun h k=>(h.mul k).sml (by omega)
 exact main ⟨N+1,by omega,by omega,s1.mono (by omega)⟩ ⟨N,by omega,s1,s2⟩ ⟨N+N+4,by omega,t12,s3.mono (by omega)⟩ ⟨N+N+4+N+4,by omega,sY.mono (by omega),tC⟩ ⟨N+N+4+N+4,by omega,sX.mono (by omega),tC⟩
  ⟨_,by omega,tU.1,yd'⟩ ⟨_,by omega,tU.2.1,yd'⟩ ⟨_,by omega,tU.2.2.1,yd'⟩ ⟨_,by omega,tU.2.2.2,yd'⟩ ⟨_,by omega,tN.1,xd'⟩ (fun e=>(Int.mul_eq_zero.1 e).elim nN xd0) (z tU.1 yd') (z tU.2.1 yd') (z tU.2.2.1 yd') (z tU.2.2.2 yd') (z tN.1 xd')
end Go.Fw
open Go IntKind
namespace Go.Fw
set_option maxRecDepth 100000
theorem ziz(h1:(rnB aP.n.x (oV (4:Int) (0:Int) (3:Int)).x&&(rnB aP.n.y (oV (4:Int) (0:Int) (3:Int)).y&&(rnB aP.n.z (oV (4:Int) (0:Int) (3:Int)).z&&true)))=true)(h2:(rnB cP.n.x (oN (1:Int)))=true)(s2_0:(-9223372036854775808:Int)≤5∧(5:Int)≤9223372036854775807)(s42_0:(-9223372036854775808:Int)≤4∧(4:Int)≤9223372036854775807)(s42_1:(-9223372036854775808:Int)≤0∧(0:Int)≤9223372036854775807)(s42_2:(-9223372036854775808:Int)≤3∧(3:Int)≤9223372036854775807)(s49_0:(-9223372036854775808:Int)≤1∧(1:Int)≤9223372036854775807)(s72_0:(-9223372036854775808:Int)≤5∧(5:Int)≤9223372036854775807):PCall P 72 [] (.lit (.bool (rnB (oN (5:Int)) (oN (5:Int))))):=
 j3 (.r 2 (zb4 ((5:Int)) s2_0) (.r 3 (ztw) (.c (lq 40 40) (.r 11 (zth) (.c (lq 40 40) (.r 19 (zt8) (.c (lq 3 3) (.c (lq 10 10) (.r 42 (zhC ((4:Int)) ((0:Int)) ((3:Int)) s42_0 s42_1 s42_2) (.b 45 h1 (.r 49 (zb4 ((1:Int)) s49_0) (.b 52 h2 (.r 56 (ztu) (.r 62 (zte) (.r 72 (zb4 ((5:Int)) s72_0) .nil))))))))))))))) (by kernel_rfl)
end Go.Fw
open Go IntKind
namespace Go.Fw
set_option maxRecDepth 100000
theorem zn3(v:VN)(s3_0 s3_1 s3_2:(-9223372036854775808:Int)≤0∧(0:Int)≤9223372036854775807):PCall P 66 [v.c] (.lit (.bool (rnB v.x (oV (0:Int) (0:Int) (0:Int)).x&&(rnB v.y (oV (0:Int) (0:Int) (0:Int)).y&&(rnB v.z (oV (0:Int) (0:Int) (0:Int)).z&&true))))):=
 j3 (.r 3 (zhC ((0:Int)) ((0:Int)) ((0:Int)) s3_0 s3_1 s3_2) .nil) (by kernel_rfl)
end Go.Fw
open Go
namespace Go.Fw
set_option maxRecDepth 100000
theorem z7C(v:VN):PCall P 66 [v.c] (.lit (.bool (zV v))):=zn3 v (by decide) (by decide) (by decide)
end Go.Fw
open Go IntKind
namespace Go.Fw
set_option maxRecDepth 100000
theorem zo9(x:RN)(h1:decide ((↑x.s0.size:Int)>10)=true):PCall P 74 [x.c,j4 10] (.lit (.bool false)):=
 j3 (.c (bq 0 4) (.b 15 h1 .nil)) (by kernel_rfl)
theorem zoV(x:RN)(h1:decide ((↑x.s0.size:Int)>10)=false)(h2:decide ((↑x.s1.size:Int)>10)=true):PCall P 74 [x.c,j4 10] (.lit (.bool false)):=
 j3 (.c (bq 0 4) (.b 15 h1 (.c (bq 1 4) (.b 31 h2 .nil)))) (by kernel_rfl)
theorem zoy(x:RN)(h1:decide ((↑x.s0.size:Int)>10)=false)(h2:decide ((↑x.s1.size:Int)>10)=false)(h3:decide ((↑x.s2.size:Int)>10)=true):PCall P 74 [x.c,j4 10] (.lit (.bool false)):=
 j3 (.c (bq 0 4) (.b 15 h1 (.c (bq 1 4) (.b 31 h2 (.c (bq 2 4) (.b 47 h3 .nil)))))) (by kernel_rfl)
theorem znW(x:RN)(h1:decide ((↑x.s0.size:Int)>10)=false)(h2:decide ((↑x.s1.size:Int)>10)=false)(h3:decide ((↑x.s2.size:Int)>10)=false)(h4:decide ((↑x.s3.size:Int)>10)=true):PCall P 74 [x.c,j4 10] (.lit (.bool false)):=
 j3 (.c (bq 0 4) (.b 15 h1 (.c (bq 1 4) (.b 31 h2 (.c (bq 2 4) (.b 47 h3 (.c (bq 3 4) (.b 63 h4 .nil)))))))) (by kernel_rfl)
theorem zri(x:RN)(h1:decide ((↑x.s0.size:Int)>10)=false)(h2:decide ((↑x.s1.size:Int)>10)=false)(h3:decide ((↑x.s2.size:Int)>10)=false)(h4:decide ((↑x.s3.size:Int)>10)=false):PCall P 74 [x.c,j4 10] (.lit (.bool (decide ((↑x.s4.size:Int)≤10)))):=
 j3 (.c (bq 0 4) (.b 15 h1 (.c (bq 1 4) (.b 31 h2 (.c (bq 2 4) (.b 47 h3 (.c (bq 3 4) (.b 63 h4 .nil)))))))) (by kernel_rfl)
end Go.Fw
open Go
namespace Go.Fw
set_option maxRecDepth 100000
theorem z28(x:RN):PCall P 74 [x.c,j4 10] (.lit (.bool (x.raw 10))):=by
 have big: ∀{n:Nat},¬n≤10→decide ((n:Int)>10)=true:=fun h=>decide_eq_true (by omega)
 have sml: ∀{n:Nat},n≤10→decide ((n:Int)>10)=false:=fun h=>decide_eq_false (by omega)
 unfold RN.raw
 by_cases h0:x.s0.size≤10
 · by_cases h1:x.s1.size≤10
   · by_cases h2:x.s2.size≤10
     · by_cases h3:x.s3.size≤10
       · refine(zri x (sml h0) (sml h1) (sml h2) (sml h3)).eqB ?_
         rw[decide_eq_true h0,decide_eq_true h1,decide_eq_true h2,decide_eq_true h3,Bool.true_and,Bool.true_and,Bool.true_and,Bool.true_and,decide_eq_decide]
         omega
       · refine(znW x (sml h0) (sml h1) (sml h2) (big h3)).eqB ?_
         simp[h3]
     · refine(zoy x (sml h0) (sml h1) (big h2)).eqB ?_
       simp[h2]
   · refine(zoV x (sml h0) (big h1)).eqB ?_
     simp[h1]
 · refine(zo9 x (big h0)).eqB ?_
   simp[h0]
theorem zem:PCall P 72 [] (.lit (.bool true)):=by
 have h:=ziz (by show(rnB (oN 4) (oV 4 0 3).x&&(rnB (oN 0) (oV 4 0 3).y&&(rnB (oN 3) (oV 4 0 3).z&&true)))=true;rw[zsc,zt4,ztm,z3G.2 rfl,z3G.2 rfl,z3G.2 rfl];rfl) zrS (by decide) (by decide) (by decide) (by decide) (by decide) (by decide)
 rw[z3G.2 rfl]at h
 exact h
end Go.Fw
open Go IntKind
namespace Go.Fw
set_option maxRecDepth 100000
theorem zq8(v:VN)(h1:(RN.raw 10 v.x)=true)(h2:(RN.raw 10 v.y)=true)(h3:(RN.raw 10 v.z)=true):PCall P 90 [v.c,j4 10] (.lit (.bool true)):=
 j3 (.r 5 ((z28 (v.x)).eqB h1) (.r 10 ((z28 (v.y)).eqB h2) (.r 16 ((z28 (v.z)).eqB h3) .nil))) (by kernel_rfl)
theorem znP(v:VN)(h1:(RN.raw 10 v.x)=true)(h2:(RN.raw 10 v.y)=true)(h3:(RN.raw 10 v.z)=false):PCall P 90 [v.c,j4 10] (.lit (.bool false)):=
 j3 (.r 5 ((z28 (v.x)).eqB h1) (.r 10 ((z28 (v.y)).eqB h2) (.r 16 ((z28 (v.z)).eqB h3) .nil))) (by kernel_rfl)
theorem zos(v:VN)(h1:(RN.raw 10 v.x)=true)(h2:(RN.raw 10 v.y)=false):PCall P 90 [v.c,j4 10] (.lit (.bool false)):=
 j3 (.r 5 ((z28 (v.x)).eqB h1) (.r 10 ((z28 (v.y)).eqB h2) .nil)) (by kernel_rfl)
theorem zmv(v:VN)(h1:(RN.raw 10 v.x)=false):PCall P 90 [v.c,j4 10] (.lit (.bool false)):=
 j3 (.r 5 ((z28 (v.x)).eqB h1) .nil) (by kernel_rfl)
end Go.Fw
open Go
namespace Go.Fw
set_option maxRecDepth 100000
theorem zez(v:VN):PCall P 90 [v.c,j4 10] (.lit (.bool (v.raw 10))):=by
 unfold VN.raw zms
 cases h1:v.x.raw 10
 · exact zmv v h1
 · cases h2:v.y.raw 10
   · exact zos v h1 h2
   · cases h3:v.z.raw 10
     · exact znP v h1 h2 h3
     · exact zq8 v h1 h2 h3
end Go.Fw
open Go IntKind
namespace Go.Fw
set_option maxRecDepth 100000
theorem znF(p:PN)(h1:(p.n.ok)=true)(h2:(zV p.n)=true)(s4_0:VN.raw 1000000 p.n=true):PCall P 80 [p.c] (.lit (.bool false)):=
 j3 (.r 4 ((zgM (p.n) s4_0).eqB h1) (.r 8 ((z7C (p.n)).eqB h2) .nil)) (by kernel_rfl)
theorem zmH(p:PN)(h1:(p.n.ok)=true)(h2:(zV p.n)=false)(h3:(p.d.ok)=true)(s4_0:VN.raw 1000000 p.n=true)(s14_0:RN.raw 1000000 p.d=true):PCall P 80 [p.c] (.lit (.bool true)):=
 j3 (.r 4 ((zgM (p.n) s4_0).eqB h1) (.r 8 ((z7C (p.n)).eqB h2) (.r 14 ((z0g (p.d) s14_0).eqB h3) .nil))) (by kernel_rfl)
theorem znr(p:PN)(h1:(p.n.ok)=true)(h2:(zV p.n)=false)(h3:(p.d.ok)=false)(s4_0:VN.raw 1000000 p.n=true)(s14_0:RN.raw 1000000 p.d=true):PCall P 80 [p.c] (.lit (.bool false)):=
 j3 (.r 4 ((zgM (p.n) s4_0).eqB h1) (.r 8 ((z7C (p.n)).eqB h2) (.r 14 ((z0g (p.d) s14_0).eqB h3) .nil))) (by kernel_rfl)
theorem zpa(p:PN)(h1:(p.n.ok)=false)(s4_0:VN.raw 1000000 p.n=true):PCall P 80 [p.c] (.lit (.bool false)):=
 j3 (.r 4 ((zgM (p.n) s4_0).eqB h1) .nil) (by kernel_rfl)
theorem zq4(p:PN)(h1:(VN.raw 10 p.n)=true)(h2:(RN.raw 10 p.d)=true):PCall P 153 [p.c,j4 10] (.lit (.bool true)):=
 j3 (.r 5 ((zez (p.n)).eqB h1) (.r 10 ((z28 (p.d)).eqB h2) .nil)) (by kernel_rfl)
theorem zp0(p:PN)(h1:(VN.raw 10 p.n)=true)(h2:(RN.raw 10 p.d)=false):PCall P 153 [p.c,j4 10] (.lit (.bool false)):=
 j3 (.r 5 ((zez (p.n)).eqB h1) (.r 10 ((z28 (p.d)).eqB h2) .nil)) (by kernel_rfl)
theorem zqp(p:PN)(h1:(VN.raw 10 p.n)=false):PCall P 153 [p.c,j4 10] (.lit (.bool false)):=
 j3 (.r 5 ((zez (p.n)).eqB h1) .nil) (by kernel_rfl)
end Go.Fw
open Go
namespace Go.Fw
set_option maxRecDepth 100000
theorem z5Q(p:PN)(hp:p.raw 1000000=true):PCall P 80 [p.c] (.lit (.bool p.ok)):=by
 obtain⟨hn,hd⟩:=PN.raw_iff.1 hp
 unfold PN.ok
 cases e1:p.n.ok
 · exact zpa p e1 hn
 · cases e2:zV p.n
   · cases e3:p.d.ok
     · exact znr p e1 e2 e3 hn hd
     · exact zmH p e1 e2 e3 hn hd
   · exact znF p e1 e2 hn
theorem zhp(p:PN):PCall P 153 [p.c,j4 10] (.lit (.bool (p.raw 10))):=by
 unfold PN.raw
 cases h1:p.n.raw 10
 · exact zqp p h1
 · cases h2:p.d.raw 10
   · exact zp0 p h1 h2
   · exact zq4 p h1 h2
def pl1(p:PN):CV:= .lst 1 (p.n.x.l++(p.n.y.l++(p.n.z.l++p.d.l)))
def plL(p:PN):List CV:=p.n.x.l++(p.n.y.l++(p.n.z.l++p.d.l))
def plM(p:PN):List MV:=own (plL p)
end Go.Fw
open Go IntKind
namespace Go.Fw
set_option maxRecDepth 100000
theorem zkP(x y:RN)(g:x.ok=false)(s5_0:RN.raw 1000000 x=true):PCall P 161 [x.c,y.c] (.tup [.agg X9,.lit (.int .i64 1)]):=
 j3 (.r 5 ((z0g (x) s5_0).eqB g) (.c (lq 10 10) .nil)) (by kernel_rfl)
theorem zlX(x y:RN)(g:x.ok=true)(g2:y.ok=false)(s5_0:RN.raw 1000000 x=true)(s9_0:RN.raw 1000000 y=true):PCall P 161 [x.c,y.c] (.tup [.agg X9,.lit (.int .i64 1)]):=
 j3 (.r 5 ((z0g (x) s5_0).eqB g) (.r 9 ((z0g (y) s9_0).eqB g2) (.c (lq 10 10) .nil))) (by kernel_rfl)
theorem zjm(x y:K)(g:(y.sgn==0)=true)(s5_0:x.sz≤1000000)(s9_0 s15_0:y.sz≤1000000):PCall P 161 [Z4 x,Z4 y] (.tup [.agg X9,.lit (.int .i64 10)]):=
 j3 (.r 5 (z0A (x) s5_0) (.r 9 (z0A (y) s9_0) (.r 15 (z9F (y) s15_0) (.b 18 g (.c (lq 10 10) .nil))))) (by kernel_rfl)
theorem znc(x:RN)(h1:decide (z0a x<0)=true)(s3_0 s7_0:RN.raw 1000000 x=true):PCall P 160 [x.c] (RN.c (z44 x)):=
 j3 (.r 3 (z0L (x) s3_0) (.b 5 h1 (.r 7 (zam (x) s7_0) (.c (lq 10 10) .nil)))) (by kernel_rfl)
theorem zo5(x:RN)(h1:decide (z0a x<0)=false)(s3_0 s7_0:RN.raw 1000000 x=true)(s8_0:RN.raw 1000000 (z44 x)=true):PCall P 160 [x.c] (RN.c (z44 (z44 x))):=
 j3 (.r 3 (z0L (x) s3_0) (.b 5 h1 (.r 7 (zam (x) s7_0) (.r 8 (zam (z44 x) s8_0) (.c (lq 10 10) .nil))))) (by kernel_rfl)
end Go.Fw
open Go
namespace Go.Fw
set_option maxRecDepth 100000
theorem z8x(x y:RN)(hx:x.raw 1000000=true)(hy:y.raw 1000000=true):PCall P 161 [x.c,y.c] (.tup [(J8 x y).1.c,j4 (J8 x y).2]):=by
 unfold J8
 cases ex:toO x with
 |none=>exact zkP x y (z01 ex) hx
 |some k=>
  cases ey:toO y with
  |none=>exact zlX x y (z0O ex).1 (z01 ey) hx hy
  |some l=>
   have a:=z0P ex hx
   have b:=z0P ey hy
   rw[z94 (z0O ex).2,z94 (z0O ey).2]
   dsimp only
   by_cases h0:K.sgn l=0
   · rw[if_pos h0]
     exact zjm k l (beq_iff_eq.2 h0) a b b
   · rw[if_neg h0]
     exact zqJ k l a b h0
theorem zon(x:RN)(hx:x.raw 1000000=true):PCall P 160 [x.c] (z70 x).c:=by
 unfold z70
 by_cases h:z0a x<0
 · rw[if_pos h];exact znc x (decide_eq_true h) hx hx
 · rw[if_neg h];exact zo5 x (decide_eq_false h) hx hx (z4M hx)
end Go.Fw
open Go
namespace Go.Fw
set_option maxRecDepth 100000
def z3j(h v i:Int):Bool:=decide (0≤h∧h≤1000∧ -1000≤v∧v≤1000∧Nat.gcd h.natAbs v.natAbs=1∧0≤i∧i<24∧(h≠0∨i=0))
def zib(v:Int):Int:=if IntKind.i64.wrap (0-v)>v then IntKind.i64.wrap (0-v)else v
theorem zan{v:Int}(h1: -1000≤v)(h2:v≤1000):0≤zib v∧(zib v).natAbs=v.natAbs:=by
 unfold zib
 rw[w64 (by omega)]
 split<;>omega
theorem zsh{a b:Int}(h:a≠b):(a != b)=true:=bne_iff_ne.2 h
theorem zpj{a b:Int}(h:a=b):(a != b)=false:=by subst h;exact bne_self_eq_false _
theorem zsy{a b:Int}(h:a≠b):(a==b)=false:=by
 cases e:a==b
 · rfl
 · exact absurd (beq_iff_eq.1 e) h
theorem zce(h v i:Int):PCall P 81 [.agg [j4 h,j4 v,j4 i]] (.lit (.bool (z3j h v i))):=by
 by_cases h1:h<0
 · rw[show z3j h v i=false from decide_eq_false (by omega)];exact znf h v i (decide_eq_true h1)
 by_cases h2:h>1000
 · rw[show z3j h v i=false from decide_eq_false (by omega)];exact zrp h v i (decide_eq_false h1) (decide_eq_true h2)
 by_cases h3:v< -1000
 · rw[show z3j h v i=false from decide_eq_false (by omega)];exact zrh h v i (decide_eq_false h1) (decide_eq_false h2) (decide_eq_true h3)
 by_cases h4:v>1000
 · rw[show z3j h v i=false from decide_eq_false (by omega)];exact zqC h v i (decide_eq_false h1) (decide_eq_false h2) (decide_eq_false h3) (decide_eq_true h4)
 obtain⟨a0,ae⟩:=zan (v:=v) (by omega) (by omega)
 have e1:=decide_eq_false h1
 have e2:=decide_eq_false h2
 have e3:=decide_eq_false h3
 have e4:=decide_eq_false h4
 by_cases h5:Nat.gcd h.natAbs v.natAbs=1
 · have e5:(((Nat.gcd h.natAbs (zib v).natAbs:Nat):Int) != 1)=false:=zpj (by rw[ae,h5];rfl)
   by_cases h6:i≥0
   · by_cases h7:i<24
     · by_cases h8:h=0
       · refine(zn5 h v i e1 e2 e3 e4 e5 (decide_eq_true h6) (decide_eq_true h7) (zpj h8) (by omega) a0).eq ?_
         congr 2
         cases e:i==0
         · have:=beq_eq_false_iff_ne.1 e
           exact(decide_eq_false (by omega)).symm
         · have:=beq_iff_eq.1 e
           exact(decide_eq_true (by omega)).symm
       · rw[show z3j h v i=true from decide_eq_true (by omega)]
         exact zoh h v i e1 e2 e3 e4 e5 (decide_eq_true h6) (decide_eq_true h7) (zsh h8) (by omega) a0
     · rw[show z3j h v i=false from decide_eq_false (by omega)]
       exact zng h v i e1 e2 e3 e4 e5 (decide_eq_true h6) (decide_eq_false h7) (by omega) a0
   · rw[show z3j h v i=false from decide_eq_false (by omega)]
     exact zq2 h v i e1 e2 e3 e4 e5 (decide_eq_false h6) (by omega) a0
 · rw[show z3j h v i=false from decide_eq_false (by omega)]
   exact zoo h v i e1 e2 e3 e4 (zsh (show((Nat.gcd h.natAbs (zib v).natAbs:Nat):Int)≠1 by rw[ae];omega)) (by omega) a0
theorem z95(h v i:Int):PCall P 82 [.agg [j4 h,j4 v,j4 i]] (.lit (.bool (z3j h v i))):=by
 by_cases h1:h≥0
 case neg=>rw[show z3j h v i=false from decide_eq_false (by omega)];exact zn1 h v i (decide_eq_false h1)
 by_cases h2:h≤1000
 case neg=>rw[show z3j h v i=false from decide_eq_false (by omega)];exact zqu h v i (decide_eq_true h1) (decide_eq_false h2)
 by_cases h3:v≥ -1000
 case neg=>rw[show z3j h v i=false from decide_eq_false (by omega)];exact zrl h v i (decide_eq_true h1) (decide_eq_true h2) (decide_eq_false h3)
 by_cases h4:v≤1000
 case neg=>rw[show z3j h v i=false from decide_eq_false (by omega)];exact zrd h v i (decide_eq_true h1) (decide_eq_true h2) (decide_eq_true h3) (decide_eq_false h4)
 obtain⟨a0,ae⟩:=zan (v:=v) (by omega) (by omega)
 have e1:=decide_eq_true h1
 have e2:=decide_eq_true h2
 have e3:=decide_eq_true h3
 have e4:=decide_eq_true h4
 by_cases h5:Nat.gcd h.natAbs v.natAbs=1
 · have e5:(((Nat.gcd h.natAbs (zib v).natAbs:Nat):Int)==1)=true:=beq_iff_eq.2 (by rw[ae,h5];rfl)
   by_cases h6:i≥0
   · by_cases h7:i<24
     · by_cases h8:h>0
       · rw[show z3j h v i=true from decide_eq_true (by omega)]
         exact zrt h v i e1 e2 e3 e4 e5 (decide_eq_true h6) (decide_eq_true h7) (decide_eq_true h8) (by omega) a0
       · refine(znY h v i e1 e2 e3 e4 e5 (decide_eq_true h6) (decide_eq_true h7) (decide_eq_false h8) (by omega) a0).eq ?_
         congr 2
         cases e:i==0
         · have:=beq_eq_false_iff_ne.1 e
           exact(decide_eq_false (by omega)).symm
         · have:=beq_iff_eq.1 e
           exact(decide_eq_true (by omega)).symm
     · rw[show z3j h v i=false from decide_eq_false (by omega)]
       exact zrn h v i e1 e2 e3 e4 e5 (decide_eq_true h6) (decide_eq_false h7) (by omega) a0
   · rw[show z3j h v i=false from decide_eq_false (by omega)]
     exact zqw h v i e1 e2 e3 e4 e5 (decide_eq_false h6) (by omega) a0
 · rw[show z3j h v i=false from decide_eq_false (by omega)]
   exact zqT h v i e1 e2 e3 e4 (zsy (show((Nat.gcd h.natAbs (zib v).natAbs:Nat):Int)≠1 by rw[ae];omega)) (by omega) a0
def z6A(x:K):Bool:=decide (x.c1=0∧x.c2=0∧x.c3=0)
theorem zmj{z:Int}:((bytesOf z.natAbs).toList==[])=decide (z=0):=by
 rw[V7,decide_eq_decide,V4];omega
theorem zg8(x:K)(h:Smk x):PCall P 218 [(kN x).c] (.lit (.bool (z6A x))):=by
 rw[z1b]
 by_cases h1:x.c1=0
 · by_cases h2:x.c2=0
   · refine(zk3 x (by rw[zmj];exact decide_eq_true h1) (by rw[zmj];exact decide_eq_true h2) h).eq ?_
     rw[zmj]
     congr 2
     unfold z6A
     rw[decide_eq_decide];omega
   · rw[show z6A x=false from decide_eq_false (by omega)]
     exact zjD x (by rw[zmj];exact decide_eq_true h1) (by rw[zmj];exact decide_eq_false h2) h
 · rw[show z6A x=false from decide_eq_false (by omega)]
   exact zkW x (by rw[zmj];exact decide_eq_false h1) h
theorem z6R{z:Int}:(decide (z<0)==false&&(bytesOf z.natAbs==(⟨#[]⟩:ByteArray)&&true))=decide (z=0):=by
 by_cases h:z=0
 · subst h;kernel_rfl
 · rw[decide_eq_false h]
   have:(bytesOf z.natAbs==(⟨#[]⟩:ByteArray))=false:=by
    rw[zdf]
    refine decide_eq_false fun e=>?_
    have:=V4.1 (congrArg ByteArray.size e)
    omega
   rw[this,Bool.false_and,Bool.and_false]
theorem zn0(x:K)(h:x.sz≤1000000):PCall P 219 [(kN x).c] (.lit (.bool (z6A x))):=by
 rw[z1b]
 by_cases h1:x.c1=0
 · by_cases h2:x.c2=0
   · refine(ziZ x (by rw[z6R];exact decide_eq_true h1) (by rw[z6R];exact decide_eq_true h2) h).eq ?_
     rw[z6R]
     congr 2
     unfold z6A
     rw[decide_eq_decide];omega
   · rw[show z6A x=false from decide_eq_false (by omega)]
     exact zld x (by rw[z6R];exact decide_eq_true h1) (by rw[z6R];exact decide_eq_false h2) h
 · rw[show z6A x=false from decide_eq_false (by omega)]
   exact zjN x (by rw[z6R];exact decide_eq_false h1) h
def z4e(z:Int):Int×Bool:=((z0e z).1,(z0e z).2&&decide ((z0e z).1≥ -1000)&&decide ((z0e z).1≤1000))
theorem zhw(z:Int):PCall P 220 [J5 z] (.tup [j4 (z4e z).1,.lit (.bool (z4e z).2)]):=by
 unfold z4e
 cases h1:(z0e z).2
 · exact zmd z h1
 · cases h2:decide ((z0e z).1≥ -1000)
   · exact zir z h1 h2
   · exact zi7 z h1 h2
theorem zhQ(x:K):CV.agg [.lit (.bool (kN x).b0),.lit (.string (kN x).s0)]=J5 x.c0:=by rw[z1b];rfl
theorem zhn(x:K):CV.agg [.lit (.bool (kN x).b4),.lit (.string (kN x).s4)]=J5 x.d:=by rw[z1b];rfl
theorem z6V(x:K):PCall P 217 [.agg [.lit (.bool (kN x).b0),.lit (.string (kN x).s0)]] (.tup [j4 (z0e x.c0).1,.lit (.bool (z0e x.c0).2)]):=by rw[zhQ];exact zhJ _
theorem z6W(x:K):PCall P 217 [.agg [.lit (.bool (kN x).b4),.lit (.string (kN x).s4)]] (.tup [j4 (z0e x.d).1,.lit (.bool (z0e x.d).2)]):=by rw[zhn];exact zhJ _
theorem zrj(x:K):PCall P 220 [.agg [.lit (.bool (kN x).b0),.lit (.string (kN x).s0)]] (.tup [j4 (z4e x.c0).1,.lit (.bool (z4e x.c0).2)]):=by rw[zhQ];exact zhw _
theorem zq1(x:K):PCall P 220 [.agg [.lit (.bool (kN x).b4),.lit (.string (kN x).s4)]] (.tup [j4 (z4e x.d).1,.lit (.bool (z4e x.d).2)]):=by rw[zhn];exact zhw _
end Go.Fw
