/- A part of the proof that the law returns true for every input: an executor for the model's code, and what functions of the program compute. -/
import Derived.Test.YtcafjpldfnegiaaGreatDoorB11
import Derived.Test.YtcafjpldfnegiaaGreatDoorB15
import Derived.Test.YtcafjpldfnegiaaGreatDoorB17
import Derived.Test.YtcafjpldfnegiaaGreatDoorB21
import Derived.Test.YtcafjpldfnegiaaGreatDoorB36
import Derived.Test.YtcafjpldfnegiaaGreatDoorB40
import Derived.Test.YtcafjpldfnegiaaGreatDoorB41
import Derived.Test.YtcafjpldfnegiaaGreatDoorB42
import Derived.Test.YtcafjpldfnegiaaGreatDoorB43
import Derived.Test.YtcafjpldfnegiaaGreatDoorB44
import Derived.KernelRfl
open Go IntKind
namespace Go.Fw
set_option maxRecDepth 100000
theorem zgr(x y:K)(g:(y.sgn==0)=false)(s5_0:x.sz≤1000000)(s9_0 s15_0:y.sz≤1000000)(s19_0:(-9223372036854775808:Int)≤1∧(1:Int)≤9223372036854775807)(s125_0: ∃n,1≤n∧n≤500000000∧By4 n y.c0 (-y.c1) y.c2 (-y.c3))(s231_0: ∃n,n≤500000000∧Q4.Sm n {a:=y.c0,b:= -y.c1,c:=y.c2,d:= -y.c3}∧Q4.Sm n {a:=y.c0,b:=y.c1,c:= -y.c2,d:= -y.c3})(s337_0: ∃n,n≤500000000∧Q4.Sm n (Y4 {a:=y.c0,b:= -y.c1,c:=y.c2,d:= -y.c3} {a:=y.c0,b:=y.c1,c:= -y.c2,d:= -y.c3})∧Q4.Sm n {a:=y.c0,b:= -y.c1,c:= -y.c2,d:=y.c3})(s349_0: ∃n,n≤500000000∧Q4.Sm n {a:=y.c0,b:=y.c1,c:=y.c2,d:=y.c3}∧Q4.Sm n (Y4 (Y4 {a:=y.c0,b:= -y.c1,c:=y.c2,d:= -y.c3} {a:=y.c0,b:=y.c1,c:= -y.c2,d:= -y.c3}) {a:=y.c0,b:= -y.c1,c:= -y.c2,d:=y.c3}))(s355_0: ∃n,n≤500000000∧Q4.Sm n {a:=x.c0,b:=x.c1,c:=x.c2,d:=x.c3}∧Q4.Sm n (Y4 (Y4 {a:=y.c0,b:= -y.c1,c:=y.c2,d:= -y.c3} {a:=y.c0,b:=y.c1,c:= -y.c2,d:= -y.c3}) {a:=y.c0,b:= -y.c1,c:= -y.c2,d:=y.c3}))(s369_0:Two (Y4 {a:=x.c0,b:=x.c1,c:=x.c2,d:=x.c3} (Y4 (Y4 {a:=y.c0,b:= -y.c1,c:=y.c2,d:= -y.c3} {a:=y.c0,b:=y.c1,c:= -y.c2,d:= -y.c3}) {a:=y.c0,b:= -y.c1,c:= -y.c2,d:=y.c3})).a y.d)(s385_0:Two (Y4 {a:=x.c0,b:=x.c1,c:=x.c2,d:=x.c3} (Y4 (Y4 {a:=y.c0,b:= -y.c1,c:=y.c2,d:= -y.c3} {a:=y.c0,b:=y.c1,c:= -y.c2,d:= -y.c3}) {a:=y.c0,b:= -y.c1,c:= -y.c2,d:=y.c3})).b y.d)(s401_0:Two (Y4 {a:=x.c0,b:=x.c1,c:=x.c2,d:=x.c3} (Y4 (Y4 {a:=y.c0,b:= -y.c1,c:=y.c2,d:= -y.c3} {a:=y.c0,b:=y.c1,c:= -y.c2,d:= -y.c3}) {a:=y.c0,b:= -y.c1,c:= -y.c2,d:=y.c3})).c y.d)(s417_0:Two (Y4 {a:=x.c0,b:=x.c1,c:=x.c2,d:=x.c3} (Y4 (Y4 {a:=y.c0,b:= -y.c1,c:=y.c2,d:= -y.c3} {a:=y.c0,b:=y.c1,c:= -y.c2,d:= -y.c3}) {a:=y.c0,b:= -y.c1,c:= -y.c2,d:=y.c3})).d y.d)(s432_0:Two (Y4 {a:=y.c0,b:=y.c1,c:=y.c2,d:=y.c3} (Y4 (Y4 {a:=y.c0,b:= -y.c1,c:=y.c2,d:= -y.c3} {a:=y.c0,b:=y.c1,c:= -y.c2,d:= -y.c3}) {a:=y.c0,b:= -y.c1,c:= -y.c2,d:=y.c3})).a x.d)(s433_0:(Y4 {a:=y.c0,b:=y.c1,c:=y.c2,d:=y.c3} (Y4 (Y4 {a:=y.c0,b:= -y.c1,c:=y.c2,d:= -y.c3} {a:=y.c0,b:=y.c1,c:= -y.c2,d:= -y.c3}) {a:=y.c0,b:= -y.c1,c:= -y.c2,d:=y.c3})).a*x.d≠0)(s433_1:SmlZ ((Y4 {a:=x.c0,b:=x.c1,c:=x.c2,d:=x.c3} (Y4 (Y4 {a:=y.c0,b:= -y.c1,c:=y.c2,d:= -y.c3} {a:=y.c0,b:=y.c1,c:= -y.c2,d:= -y.c3}) {a:=y.c0,b:= -y.c1,c:= -y.c2,d:=y.c3})).a*y.d))(s433_2:SmlZ ((Y4 {a:=x.c0,b:=x.c1,c:=x.c2,d:=x.c3} (Y4 (Y4 {a:=y.c0,b:= -y.c1,c:=y.c2,d:= -y.c3} {a:=y.c0,b:=y.c1,c:= -y.c2,d:= -y.c3}) {a:=y.c0,b:= -y.c1,c:= -y.c2,d:=y.c3})).b*y.d))(s433_3:SmlZ ((Y4 {a:=x.c0,b:=x.c1,c:=x.c2,d:=x.c3} (Y4 (Y4 {a:=y.c0,b:= -y.c1,c:=y.c2,d:= -y.c3} {a:=y.c0,b:=y.c1,c:= -y.c2,d:= -y.c3}) {a:=y.c0,b:= -y.c1,c:= -y.c2,d:=y.c3})).c*y.d))(s433_4:SmlZ ((Y4 {a:=x.c0,b:=x.c1,c:=x.c2,d:=x.c3} (Y4 (Y4 {a:=y.c0,b:= -y.c1,c:=y.c2,d:= -y.c3} {a:=y.c0,b:=y.c1,c:= -y.c2,d:= -y.c3}) {a:=y.c0,b:= -y.c1,c:= -y.c2,d:=y.c3})).d*y.d))(s433_5:SmlZ ((Y4 {a:=y.c0,b:=y.c1,c:=y.c2,d:=y.c3} (Y4 (Y4 {a:=y.c0,b:= -y.c1,c:=y.c2,d:= -y.c3} {a:=y.c0,b:=y.c1,c:= -y.c2,d:= -y.c3}) {a:=y.c0,b:= -y.c1,c:= -y.c2,d:=y.c3})).a*x.d)):PCall P 161 [Q1 x,Q1 y] (.tup [Q1 (K.of ((Y4 {a:=x.c0,b:=x.c1,c:=x.c2,d:=x.c3} (Y4 (Y4 {a:=y.c0,b:= -y.c1,c:=y.c2,d:= -y.c3} {a:=y.c0,b:=y.c1,c:= -y.c2,d:= -y.c3}) {a:=y.c0,b:= -y.c1,c:= -y.c2,d:=y.c3})).a*y.d) ((Y4 {a:=x.c0,b:=x.c1,c:=x.c2,d:=x.c3} (Y4 (Y4 {a:=y.c0,b:= -y.c1,c:=y.c2,d:= -y.c3} {a:=y.c0,b:=y.c1,c:= -y.c2,d:= -y.c3}) {a:=y.c0,b:= -y.c1,c:= -y.c2,d:=y.c3})).b*y.d) ((Y4 {a:=x.c0,b:=x.c1,c:=x.c2,d:=x.c3} (Y4 (Y4 {a:=y.c0,b:= -y.c1,c:=y.c2,d:= -y.c3} {a:=y.c0,b:=y.c1,c:= -y.c2,d:= -y.c3}) {a:=y.c0,b:= -y.c1,c:= -y.c2,d:=y.c3})).c*y.d) ((Y4 {a:=x.c0,b:=x.c1,c:=x.c2,d:=x.c3} (Y4 (Y4 {a:=y.c0,b:= -y.c1,c:=y.c2,d:= -y.c3} {a:=y.c0,b:=y.c1,c:= -y.c2,d:= -y.c3}) {a:=y.c0,b:= -y.c1,c:= -y.c2,d:=y.c3})).d*y.d) ((Y4 {a:=y.c0,b:=y.c1,c:=y.c2,d:=y.c3} (Y4 (Y4 {a:=y.c0,b:= -y.c1,c:=y.c2,d:= -y.c3} {a:=y.c0,b:=y.c1,c:= -y.c2,d:= -y.c3}) {a:=y.c0,b:= -y.c1,c:= -y.c2,d:=y.c3})).a*x.d)),.lit (.int .i64 0)]):=
 j3 (.r 5 (z0x (x) s5_0) (.r 9 (z0x (y) s9_0) (.r 15 (z9A (y) s15_0) (.b 18 g (.r 19 (Y9 ((1:Int)) s19_0) (.c (lq 8 8) (.c (lq 8 8) (.c (bq 1 4) (.r 70 (X8 (y.c1)) (.c (bq 1 4) (.c (lq 4 8) (.c (bq 3 4) (.r 113 (X8 (y.c3)) (.c (bq 3 4) (.c (lq 8 8) (.r 125 (zfT (y.c0) (-y.c1) (y.c2) (-y.c3) s125_0) (.c (lq 8 8) (.c (lq 8 8) (.c (bq 2 4) (.r 194 (X8 (y.c2)) (.c (bq 2 4) (.c (lq 6 8) (.c (bq 3 4) (.r 219 (X8 (y.c3)) (.c (bq 3 4) (.c (lq 8 8) (.r 231 (z80 (y.c0) (-y.c1) (y.c2) (-y.c3) (y.c0) (y.c1) (-y.c2) (-y.c3) s231_0) (.c (lq 8 8) (.c (lq 8 8) (.c (bq 1 4) (.r 282 (X8 (y.c1)) (.c (bq 1 4) (.c (lq 4 8) (.c (bq 2 4) (.r 307 (X8 (y.c2)) (.c (bq 2 4) (.c (lq 6 8) (.r 337 (zh8 (Y4 {a:=y.c0,b:= -y.c1,c:=y.c2,d:= -y.c3} {a:=y.c0,b:=y.c1,c:= -y.c2,d:= -y.c3}) (y.c0) (-y.c1) (-y.c2) (y.c3) s337_0) (.c (lq 8 8) (.r 349 (zaJ (y.c0) (y.c1) (y.c2) (y.c3) (Y4 (Y4 {a:=y.c0,b:= -y.c1,c:=y.c2,d:= -y.c3} {a:=y.c0,b:=y.c1,c:= -y.c2,d:= -y.c3}) {a:=y.c0,b:= -y.c1,c:= -y.c2,d:=y.c3}) s349_0) (.c (lq 8 8) (.r 355 (zaJ (x.c0) (x.c1) (x.c2) (x.c3) (Y4 (Y4 {a:=y.c0,b:= -y.c1,c:=y.c2,d:= -y.c3} {a:=y.c0,b:=y.c1,c:= -y.c2,d:= -y.c3}) {a:=y.c0,b:= -y.c1,c:= -y.c2,d:=y.c3}) s355_0) (.c (lq 8 8) (.c (bq 0 4) (.r 369 (z4W ((Y4 {a:=x.c0,b:=x.c1,c:=x.c2,d:=x.c3} (Y4 (Y4 {a:=y.c0,b:= -y.c1,c:=y.c2,d:= -y.c3} {a:=y.c0,b:=y.c1,c:= -y.c2,d:= -y.c3}) {a:=y.c0,b:= -y.c1,c:= -y.c2,d:=y.c3})).a) (y.d) s369_0) (.c (bq 0 4) (.c (lq 2 8) (.c (bq 1 4) (.r 385 (z4W ((Y4 {a:=x.c0,b:=x.c1,c:=x.c2,d:=x.c3} (Y4 (Y4 {a:=y.c0,b:= -y.c1,c:=y.c2,d:= -y.c3} {a:=y.c0,b:=y.c1,c:= -y.c2,d:= -y.c3}) {a:=y.c0,b:= -y.c1,c:= -y.c2,d:=y.c3})).b) (y.d) s385_0) (.c (bq 1 4) (.c (lq 4 8) (.c (bq 2 4) (.r 401 (z4W ((Y4 {a:=x.c0,b:=x.c1,c:=x.c2,d:=x.c3} (Y4 (Y4 {a:=y.c0,b:= -y.c1,c:=y.c2,d:= -y.c3} {a:=y.c0,b:=y.c1,c:= -y.c2,d:= -y.c3}) {a:=y.c0,b:= -y.c1,c:= -y.c2,d:=y.c3})).c) (y.d) s401_0) (.c (bq 2 4) (.c (lq 6 8) (.c (bq 3 4) (.r 417 (z4W ((Y4 {a:=x.c0,b:=x.c1,c:=x.c2,d:=x.c3} (Y4 (Y4 {a:=y.c0,b:= -y.c1,c:=y.c2,d:= -y.c3} {a:=y.c0,b:=y.c1,c:= -y.c2,d:= -y.c3}) {a:=y.c0,b:= -y.c1,c:= -y.c2,d:=y.c3})).d) (y.d) s417_0) (.c (bq 3 4) (.c (lq 8 8) (.c (bq 0 4) (.r 432 (z4W ((Y4 {a:=y.c0,b:=y.c1,c:=y.c2,d:=y.c3} (Y4 (Y4 {a:=y.c0,b:= -y.c1,c:=y.c2,d:= -y.c3} {a:=y.c0,b:=y.c1,c:= -y.c2,d:= -y.c3}) {a:=y.c0,b:= -y.c1,c:= -y.c2,d:=y.c3})).a) (x.d) s432_0) (.r 433 (z8O ((Y4 {a:=x.c0,b:=x.c1,c:=x.c2,d:=x.c3} (Y4 (Y4 {a:=y.c0,b:= -y.c1,c:=y.c2,d:= -y.c3} {a:=y.c0,b:=y.c1,c:= -y.c2,d:= -y.c3}) {a:=y.c0,b:= -y.c1,c:= -y.c2,d:=y.c3})).a*y.d) ((Y4 {a:=x.c0,b:=x.c1,c:=x.c2,d:=x.c3} (Y4 (Y4 {a:=y.c0,b:= -y.c1,c:=y.c2,d:= -y.c3} {a:=y.c0,b:=y.c1,c:= -y.c2,d:= -y.c3}) {a:=y.c0,b:= -y.c1,c:= -y.c2,d:=y.c3})).b*y.d) ((Y4 {a:=x.c0,b:=x.c1,c:=x.c2,d:=x.c3} (Y4 (Y4 {a:=y.c0,b:= -y.c1,c:=y.c2,d:= -y.c3} {a:=y.c0,b:=y.c1,c:= -y.c2,d:= -y.c3}) {a:=y.c0,b:= -y.c1,c:= -y.c2,d:=y.c3})).c*y.d) ((Y4 {a:=x.c0,b:=x.c1,c:=x.c2,d:=x.c3} (Y4 (Y4 {a:=y.c0,b:= -y.c1,c:=y.c2,d:= -y.c3} {a:=y.c0,b:=y.c1,c:= -y.c2,d:= -y.c3}) {a:=y.c0,b:= -y.c1,c:= -y.c2,d:=y.c3})).d*y.d) ((Y4 {a:=y.c0,b:=y.c1,c:=y.c2,d:=y.c3} (Y4 (Y4 {a:=y.c0,b:= -y.c1,c:=y.c2,d:= -y.c3} {a:=y.c0,b:=y.c1,c:= -y.c2,d:= -y.c3}) {a:=y.c0,b:= -y.c1,c:= -y.c2,d:=y.c3})).a*x.d) s433_0 s433_1 s433_2 s433_3 s433_4 s433_5) (.c (lq 10 10) .nil))))))))))))))))))))))))))))))))))))))))))))))))))))))))))))))) (by kernel_rfl)
end Go.Fw
open Go
namespace Go.Fw
set_option maxRecDepth 100000
def oq(A:Q4)(d:Int):K:=K.of A.a A.b A.c A.d d
theorem zaF{A B:Q4}{d e:Int}(hd:d≠0)(he:e≠0):oq A d*oq B e=oq (Q4.mul A B) (d*e):=K.mul_of hd he
def qK(x:K):Q4:=⟨x.c0,x.c1,x.c2,x.c3⟩
theorem zjB(x:K):oq (qK x) x.d=x:=K.of_self x
def cj1(y:Q4):Q4:=⟨y.a,-y.b,y.c,-y.d⟩
def cj2(y:Q4):Q4:=⟨y.a,y.b,-y.c,-y.d⟩
def cj3(y:Q4):Q4:=⟨y.a,-y.b,-y.c,y.d⟩
def z0S(y:Q4):Q4:=Q4.mul (Q4.mul (cj1 y) (cj2 y)) (cj3 y)
theorem zao(y:Q4):(Q4.mul y (z0S y)).b=0∧(Q4.mul y (z0S y)).c=0∧(Q4.mul y (z0S y)).d=0:=by
 obtain⟨a,b,c,d⟩:=y
 refine⟨?_,?_,?_⟩
 · show a*_+b*_+3*c*_+3*d*_=0
   simp only[z0S,Q4.mul,cj1,cj2,cj3]
   grind
 · show a*_+c*_+2*b*_+2*d*_=0
   simp only[z0S,Q4.mul,cj1,cj2,cj3]
   grind
 · show a*_+d*_+b*_+c*_=0
   simp only[z0S,Q4.mul,cj1,cj2,cj3]
   grind
theorem zpv(x y c:Q4):Q4.mul y (Q4.mul x c)=Q4.mul x (Q4.mul y c):=by
 obtain⟨a,b,e,d⟩:=x
 obtain⟨a',b',e',d'⟩:=y
 obtain⟨p,q,r,s⟩:=c
 simp only[Q4.mul,Q4.mk.injEq]
 refine⟨?_,?_,?_,?_⟩<;>grind
theorem zba{A:Q4}(h:oq A 1=0):A.a=0∧A.b=0∧A.c=0∧A.d=0:=by
 obtain⟨s,_,h0,h1,h2,h3,_⟩:=K.of_spec A.a A.b A.c A.d (d:=1) (by decide)
 have e:K.of A.a A.b A.c A.d 1=0:=h
 rw[e]at h0 h1 h2 h3
 exact⟨h0.trans (Int.mul_zero s),h1.trans (Int.mul_zero s),h2.trans (Int.mul_zero s),h3.trans (Int.mul_zero s)⟩
theorem zb9{y:K}(h0:y.c0=0)(h1:y.c1=0)(h2:y.c2=0)(h3:y.c3=0):y=0:=by
 refine K.cross ?_ ?_ ?_ ?_
 · rw[h0,Int.zero_mul];exact(Int.zero_mul y.d).symm
 · rw[h1,Int.zero_mul];exact(Int.zero_mul y.d).symm
 · rw[h2,Int.zero_mul];exact(Int.zero_mul y.d).symm
 · rw[h3,Int.zero_mul];exact(Int.zero_mul y.d).symm
theorem z9U{x y:K}(hx:x≠0)(hy:y≠0):x*y≠0:=fun e=>by
 have:K.sgn (x*y)=0:=K.sgn_zero.2 e
 rw[K.sgn_mul]at this
 rcases Int.mul_eq_zero.1 this with h|h
 · exact hx (K.sgn_zero.1 h)
 · exact hy (K.sgn_zero.1 h)
theorem zdM(y:Q4):oq (Q4.mul y (z0S y)) 1=oq y 1*((oq (cj1 y) 1*oq (cj2 y) 1)*oq (cj3 y) 1):=by
 have o:(1:Int)≠0:=by decide
 have e1:oq (cj1 y) 1*oq (cj2 y) 1=oq (Q4.mul (cj1 y) (cj2 y)) 1:=zaF o o
 have e2:oq (Q4.mul (cj1 y) (cj2 y)) 1*oq (cj3 y) 1=oq (z0S y) 1:=zaF o o
 have e3:oq y 1*oq (z0S y) 1=oq (Q4.mul y (z0S y)) 1:=zaF o o
 rw[e1,e2,e3]
theorem zcL{y:K}(h:y≠0):(Q4.mul (qK y) (z0S (qK y))).a≠0:=by
 intro e
 obtain⟨h1,h2,h3⟩:=zao (qK y)
 have z:oq (Q4.mul (qK y) (z0S (qK y))) 1=0:=by
  unfold oq
  rw[e,h1,h2,h3];kernel_rfl
 rw[zdM]at z
 have n0:oq (qK y) 1≠0:=fun z=>by obtain⟨a,b,c,d⟩:=zba z;exact h (zb9 a b c d)
 have n1:oq (cj1 (qK y)) 1≠0:=fun z=>by obtain⟨a,b,c,d⟩:=zba z;exact h (zb9 a (Int.neg_eq_zero.1 b) c (Int.neg_eq_zero.1 d))
 have n2:oq (cj2 (qK y)) 1≠0:=fun z=>by obtain⟨a,b,c,d⟩:=zba z;exact h (zb9 a b (Int.neg_eq_zero.1 c) (Int.neg_eq_zero.1 d))
 have n3:oq (cj3 (qK y)) 1≠0:=fun z=>by obtain⟨a,b,c,d⟩:=zba z;exact h (zb9 a (Int.neg_eq_zero.1 b) (Int.neg_eq_zero.1 c) d)
 exact z9U n0 (z9U (z9U n1 n2) n3) z
def z3c(A:Q4)(k:Int):Q4:=⟨A.a*k,A.b*k,A.c*k,A.d*k⟩
theorem zrd{x n:Q4}(h1:n.b=0)(h2:n.c=0)(h3:n.d=0):Q4.mul x n=z3c x n.a:=by
 obtain⟨a,b,c,d⟩:=x
 obtain⟨p,q,r,s⟩:=n
 simp only at h1 h2 h3
 subst h1 h2 h3
 simp only[Q4.mul,z3c,Q4.mk.injEq]
 refine⟨?_,?_,?_,?_⟩<;>grind
theorem z9W(x y:Q4)(k:Int):Q4.mul x (z3c y k)=z3c (Q4.mul x y) k:=by
 obtain⟨a,b,c,d⟩:=x
 obtain⟨p,q,r,s⟩:=y
 simp only[Q4.mul,z3c,Q4.mk.injEq]
 refine⟨?_,?_,?_,?_⟩<;>grind
theorem zja{x y:K}(h:y≠0):oq (z3c (Q4.mul (qK x) (z0S (qK y))) y.d) ((Q4.mul (qK y) (z0S (qK y))).a*x.d)=K.div x y:=by
 have hN:=zcL h
 have yd:y.d≠0:=by have:=y.pos;omega
 have xd:x.d≠0:=by have:=x.pos;omega
 have hE:(Q4.mul (qK y) (z0S (qK y))).a*x.d≠0:=fun e=>by
  rcases Int.mul_eq_zero.1 e with e|e
  · exact hN e
  · exact xd e
 refine(K.div_eq h ?_).symm
 obtain⟨h1,h2,h3⟩:=zao (qK y)
 have e1:y*oq (z3c (Q4.mul (qK x) (z0S (qK y))) y.d) ((Q4.mul (qK y) (z0S (qK y))).a*x.d)=oq (Q4.mul (qK y) (z3c (Q4.mul (qK x) (z0S (qK y))) y.d)) (y.d*((Q4.mul (qK y) (z0S (qK y))).a*x.d)):=by
  have:=zaF (A:=qK y) (B:=z3c (Q4.mul (qK x) (z0S (qK y))) y.d) yd hE
  rw[zjB]at this
  exact this
 rw[e1,z9W,zpv,zrd h1 h2 h3]
 generalize (Q4.mul (qK y) (z0S (qK y))).a=N at*
 have:=K.of_scale (s:=y.d*N) (a0:=x.c0) (a1:=x.c1) (a2:=x.c2) (a3:=x.c3) (d:=x.d) (fun e=>by
  rcases Int.mul_eq_zero.1 e with e|e
  · exact yd e
  · exact hN e) xd
 rw[K.of_self]at this
 refine Eq.trans ?_ this
 show K.of (x.c0*N*y.d) (x.c1*N*y.d) (x.c2*N*y.d) (x.c3*N*y.d) (y.d*(N*x.d))=_
 have c: ∀t:Int,t*N*y.d=y.d*N*t:=fun t=>by grind
 rw[c,c,c,c,show y.d*(N*x.d)=y.d*N*x.d by grind]
end Go.Fw
open Go
namespace Go.Fw
set_option maxRecDepth 100000
theorem Q4.Sm.mono{n m:Nat}{x:Q4}(h:Q4.Sm n x)(k:n≤m):Q4.Sm m x:=⟨h.1.mono k,h.2.1.mono k,h.2.2.1.mono k,h.2.2.2.mono k⟩
theorem Q4.Sm.mul{n m:Nat}{x y:Q4}(h:Q4.Sm n x)(k:Q4.Sm m y):Q4.Sm (n+m+4) (Q4.mul x y):=by
 obtain⟨h0,h1,h2,h3⟩:=h
 obtain⟨k0,k1,k2,k3⟩:=k
 have p: ∀{a b:Int},By n a→By m b→By (n+m+1) (a*b):=fun u v=>(u.mul v).mono (by omega)
 have q: ∀{a b:Int} (f:Int),-100≤f∧f≤100→By n a→By m b→By (n+m+1) (f*a*b):=fun f hf u v=>by
  have:=(u.mul v).k hf
  rwa[←Int.mul_assoc]at this
 have s: ∀{a b c d:Int},By (n+m+1) a→By (n+m+1) b→By (n+m+1) c→By (n+m+1) d→By (n+m+4) (a+b+c+d):=fun a b c d=>
  ((a.add b).add (c.mono (by omega))).add (d.mono (by omega))
 exact⟨s (p h0 k0) (q 2 (by decide) h1 k1) (q 3 (by decide) h2 k2) (q 6 (by decide) h3 k3),s (p h0 k1) (p h1 k0) (q 3 (by decide) h2 k3) (q 3 (by decide) h3 k2),
  s (p h0 k2) (p h2 k0) (q 2 (by decide) h1 k3) (q 2 (by decide) h3 k1),s (p h0 k3) (p h3 k0) (p h1 k2) (p h2 k1)⟩
theorem zn0(x y:K)(hx:x.sz≤1000000)(hy:y.sz≤1000000)(h0:K.sgn y≠0):PCall P 161 [Q1 x,Q1 y] (.tup [Q1 (K.div x y),j5 0]):=by
 obtain⟨N,hN,ex,ey⟩: ∃N,N≤1000000∧x.sz≤N∧y.sz≤N:=⟨1000000,Nat.le_refl _,hx,hy⟩
 obtain⟨x0,x1,x2,x3,xd⟩:=By.of_sz ex
 obtain⟨y0,y1,y2,y3,yd⟩:=By.of_sz ey
 have sX:Q4.Sm N (qK x):=⟨x0,x1,x2,x3⟩
 have sY:Q4.Sm N (qK y):=⟨y0,y1,y2,y3⟩
 have s1:Q4.Sm N (cj1 (qK y)):=⟨y0,y1.neg,y2,y3.neg⟩
 have s2:Q4.Sm N (cj2 (qK y)):=⟨y0,y1,y2.neg,y3.neg⟩
 have s3:Q4.Sm N (cj3 (qK y)):=⟨y0,y1.neg,y2.neg,y3⟩
 have t12:=s1.mul s2
 have tC:Q4.Sm (N+N+4+N+4) (z0S (qK y)):=t12.mul s3
 have tN:=sY.mul tC
 have tU:=sX.mul tC
 have ny:y≠0:=fun e=>h0 (K.sgn_zero.2 e)
 have nN:=zcL ny
 have xd0:x.d≠0:=by have:=x.pos;omega
 have e1:Y4 (cj1 (qK y)) (cj2 (qK y))=Q4.mul (cj1 (qK y)) (cj2 (qK y)):=z5X _ _
 have e2:Y4 (Q4.mul (cj1 (qK y)) (cj2 (qK y))) (cj3 (qK y))=z0S (qK y):=z5X _ _
 have e3:Y4 (qK y) (z0S (qK y))=Q4.mul (qK y) (z0S (qK y)):=z5X _ _
 have e4:Y4 (qK x) (z0S (qK y))=Q4.mul (qK x) (z0S (qK y)):=z5X _ _
 have main:=zgr x y (beq_false_of_ne h0) hx hy hy (by decide)
 change (∃n,1≤n∧n≤500000000∧Q4.Sm n (cj1 (qK y)))→(∃n,n≤500000000∧Q4.Sm n (cj1 (qK y))∧Q4.Sm n (cj2 (qK y)))→(∃n,n≤500000000∧Q4.Sm n (Y4 (cj1 (qK y)) (cj2 (qK y)))∧Q4.Sm n (cj3 (qK y)))→
  (∃n,n≤500000000∧Q4.Sm n (qK y)∧Q4.Sm n (Y4 (Y4 (cj1 (qK y)) (cj2 (qK y))) (cj3 (qK y))))→(∃n,n≤500000000∧Q4.Sm n (qK x)∧Q4.Sm n (Y4 (Y4 (cj1 (qK y)) (cj2 (qK y))) (cj3 (qK y))))→
  Two (Y4 (qK x) (Y4 (Y4 (cj1 (qK y)) (cj2 (qK y))) (cj3 (qK y)))).a y.d→Two (Y4 (qK x) (Y4 (Y4 (cj1 (qK y)) (cj2 (qK y))) (cj3 (qK y)))).b y.d→Two (Y4 (qK x) (Y4 (Y4 (cj1 (qK y)) (cj2 (qK y))) (cj3 (qK y)))).c y.d→Two (Y4 (qK x) (Y4 (Y4 (cj1 (qK y)) (cj2 (qK y))) (cj3 (qK y)))).d y.d→
  Two (Y4 (qK y) (Y4 (Y4 (cj1 (qK y)) (cj2 (qK y))) (cj3 (qK y)))).a x.d→(Y4 (qK y) (Y4 (Y4 (cj1 (qK y)) (cj2 (qK y))) (cj3 (qK y)))).a*x.d≠0→
  SmlZ ((Y4 (qK x) (Y4 (Y4 (cj1 (qK y)) (cj2 (qK y))) (cj3 (qK y)))).a*y.d)→SmlZ ((Y4 (qK x) (Y4 (Y4 (cj1 (qK y)) (cj2 (qK y))) (cj3 (qK y)))).b*y.d)→SmlZ ((Y4 (qK x) (Y4 (Y4 (cj1 (qK y)) (cj2 (qK y))) (cj3 (qK y)))).c*y.d)→SmlZ ((Y4 (qK x) (Y4 (Y4 (cj1 (qK y)) (cj2 (qK y))) (cj3 (qK y)))).d*y.d)→
  SmlZ ((Y4 (qK y) (Y4 (Y4 (cj1 (qK y)) (cj2 (qK y))) (cj3 (qK y)))).a*x.d)→
  PCall P 161 [Q1 x,Q1 y] (.tup [Q1 (oq (z3c (Y4 (qK x) (Y4 (Y4 (cj1 (qK y)) (cj2 (qK y))) (cj3 (qK y)))) y.d) ((Y4 (qK y) (Y4 (Y4 (cj1 (qK y)) (cj2 (qK y))) (cj3 (qK y)))).a*x.d)),j5 0])at main
 rw[e1,e2,e3,e4,zja ny]at main
 have yd':By (N+(N+N+4+N+4)+4) y.d:=yd.mono (by omega)
 have xd':By (N+(N+N+4+N+4)+4) x.d:=xd.mono (by omega)
 have z: ∀{a b:Int},By (N+(N+N+4+N+4)+4) a→By (N+(N+N+4+N+4)+4) b→SmlZ (a*b):=fun h k=>(h.mul k).sml (by omega)
 exact main ⟨N+1,by omega,by omega,s1.mono (by omega)⟩ ⟨N,by omega,s1,s2⟩ ⟨N+N+4,by omega,t12,s3.mono (by omega)⟩ ⟨N+N+4+N+4,by omega,sY.mono (by omega),tC⟩ ⟨N+N+4+N+4,by omega,sX.mono (by omega),tC⟩
  ⟨_,by omega,tU.1,yd'⟩ ⟨_,by omega,tU.2.1,yd'⟩ ⟨_,by omega,tU.2.2.1,yd'⟩ ⟨_,by omega,tU.2.2.2,yd'⟩ ⟨_,by omega,tN.1,xd'⟩ (fun e=>(Int.mul_eq_zero.1 e).elim nN xd0) (z tU.1 yd') (z tU.2.1 yd') (z tU.2.2.1 yd') (z tU.2.2.2 yd') (z tN.1 xd')
end Go.Fw
open Go IntKind
namespace Go.Fw
set_option maxRecDepth 100000
theorem zkU(x y:RN)(g:x.ok=false)(s5_0:RN.raw 1000000 x=true):PCall P 161 [x.c,y.c] (.tup [.agg z0k,.lit (.int .i64 1)]):=
 j3 (.r 5 ((z0l (x) s5_0).eqB g) (.c (lq 10 10) .nil)) (by kernel_rfl)
theorem zm2(x y:RN)(g:x.ok=true)(g2:y.ok=false)(s5_0:RN.raw 1000000 x=true)(s9_0:RN.raw 1000000 y=true):PCall P 161 [x.c,y.c] (.tup [.agg z0k,.lit (.int .i64 1)]):=
 j3 (.r 5 ((z0l (x) s5_0).eqB g) (.r 9 ((z0l (y) s9_0).eqB g2) (.c (lq 10 10) .nil))) (by kernel_rfl)
theorem zmo(x y:K)(g:(y.sgn==0)=true)(s5_0:x.sz≤1000000)(s9_0 s15_0:y.sz≤1000000):PCall P 161 [Q1 x,Q1 y] (.tup [.agg z0k,.lit (.int .i64 10)]):=
 j3 (.r 5 (z0x (x) s5_0) (.r 9 (z0x (y) s9_0) (.r 15 (z9A (y) s15_0) (.b 18 g (.c (lq 10 10) .nil))))) (by kernel_rfl)
theorem zq3(x:RN)(h1:decide (z50 x<0)=true)(s3_0 s7_0:RN.raw 1000000 x=true):PCall P 160 [x.c] (RN.c (z4f x)):=
 j3 (.r 3 (z5K (x) s3_0) (.b 5 h1 (.r 7 (zaY (x) s7_0) (.c (lq 10 10) .nil)))) (by kernel_rfl)
theorem zoI(x:RN)(h1:decide (z50 x<0)=false)(s3_0 s7_0:RN.raw 1000000 x=true)(s8_0:RN.raw 1000000 (z4f x)=true):PCall P 160 [x.c] (RN.c (z4f (z4f x))):=
 j3 (.r 3 (z5K (x) s3_0) (.b 5 h1 (.r 7 (zaY (x) s7_0) (.r 8 (zaY (z4f x) s8_0) (.c (lq 10 10) .nil))))) (by kernel_rfl)
theorem zni(x y:RN)(h1:(x.ok)=true)(h2:(y.ok)=true)(s4_0:RN.raw 1000000 x=true)(s8_0:RN.raw 1000000 y=true)(s14_0:RN.raw 1000000 x=true)(s14_1:RN.raw 1000000 y=true)(s15_0:RN.raw 1000000 (z3j x y)=true):PCall P 70 [x.c,y.c] (.lit (.int .i64 (z50 (z3j x y)))):=
 j3 (.r 4 ((z0l (x) s4_0).eqB h1) (.r 8 ((z0l (y) s8_0).eqB h2) (.r 14 (zcn (x) (y) s14_0 s14_1) (.r 15 (z5K (z3j x y) s15_0) .nil)))) (by kernel_rfl)
theorem znn(x y:RN)(h1:(x.ok)=true)(h2:(y.ok)=false)(s4_0:RN.raw 1000000 x=true)(s8_0:RN.raw 1000000 y=true):PCall P 70 [x.c,y.c] (.lit (.int .i64 0)):=
 j3 (.r 4 ((z0l (x) s4_0).eqB h1) (.r 8 ((z0l (y) s8_0).eqB h2) .nil)) (by kernel_rfl)
theorem zqd(x y:RN)(h1:(x.ok)=false)(s4_0:RN.raw 1000000 x=true):PCall P 70 [x.c,y.c] (.lit (.int .i64 0)):=
 j3 (.r 4 ((z0l (x) s4_0).eqB h1) .nil) (by kernel_rfl)
end Go.Fw
open Go
namespace Go.Fw
set_option maxRecDepth 100000
theorem ze3(x y:RN)(hx:x.raw 1000000=true)(hy:y.raw 1000000=true):PCall P 161 [x.c,y.c] (.tup [(z17 x y).1.c,j5 (z17 x y).2]):=by
 unfold z17
 cases ex:toO x with
 |none=>exact zkU x y (z0f ex) hx
 |some k=>
  cases ey:toO y with
  |none=>exact zm2 x y (z19 ex).1 (z0f ey) hx hy
  |some l=>
   have a:=z1a ex hx
   have b:=z1a ey hy
   rw[zbB (z19 ex).2,zbB (z19 ey).2]
   dsimp only
   by_cases h0:K.sgn l=0
   · rw[if_pos h0]
     exact zmo k l (beq_iff_eq.2 h0) a b b
   · rw[if_neg h0]
     exact zn0 k l a b h0
theorem zaa(x:RN)(hx:x.raw 1000000=true):PCall P 160 [x.c] (z0P x).c:=by
 unfold z0P
 by_cases h:z50 x<0
 · rw[if_pos h];exact zq3 x (decide_eq_true h) hx hx
 · rw[if_neg h];exact zoI x (decide_eq_false h) hx hx (z4B hx)
theorem z8o:z50 .zero=0:=by unfold z50;rw[z3H]
theorem zay{x y:RN}(h:x.ok=false∨y.ok=false):z3j x y= .zero:=by
 unfold z3j
 rcases h with h|h
 · rw[z7o h];rfl
 · rw[z7o h];cases toO x<;>rfl
theorem zhz(x y:RN)(hx:x.raw 100000=true)(hy:y.raw 100000=true):PCall P 70 [x.c,y.c] (j5 (z9n x y)):=by
 have x6:=RN.raw_mono hx (show 100000≤1000000 by decide)
 have y6:=RN.raw_mono hy (show 100000≤1000000 by decide)
 unfold z9n
 cases e1:x.ok
 · rw[zay (.inl e1),z8o]
   exact zqd x y e1 x6
 · cases e2:y.ok
   · rw[zay (.inr e2),z8o]
     exact znn x y e1 e2 x6 y6
   · exact zni x y e1 e2 x6 y6 x6 y6 (RN.raw_mono (zdY hx hy) (by decide))
end Go.Fw
open Go
namespace Go.Fw
set_option maxRecDepth 100000
theorem zlQ(v w:VN)(hv:v.raw 10000=true)(hw:w.raw 10000=true):PCall P 173 [v.c,w.c] (z38 v w).c:=by
 have hv':=VN.raw_mono hv (show 10000≤1000000 by decide)
 have hw':=VN.raw_mono hw (show 10000≤1000000 by decide)
 unfold z38
 cases ev:toV v with
 |none=>exact zcg v w (z0q ev) hv'
 |some a=>
  cases ew:toV w with
  |none=>exact zcN v w (z4S ev) (z0q ew) hv' hw'
  |some b=>
   obtain⟨x,y,z⟩:=z0u ev hv
   obtain⟨x',y',z'⟩:=z0u ew hw
   have m1:=K.sz_mul a.x b.x
   have m2:=K.sz_mul a.y b.y
   have m3:=K.sz_mul a.z b.z
   have m4:=K.sz_add (a.x*b.x) (a.y*b.y)
   rw[z4N ev,z4N ew]
   exact zeL _ _ _ _ _ _ (by omega) (by omega) (by omega) (by omega) (by omega) (by omega) (by omega) (by omega) (by omega) (by omega) (by omega) (by omega) (by omega) (by omega) (by omega) (by omega)
end Go.Fw
open Go
namespace Go.Fw
set_option maxRecDepth 100000
def zs8(z:Int):Int×Bool:=if-9223372036854775808≤z∧z<9223372036854775808 then(z,true)else(0,false)
theorem i64_in{z:Int}(h: -9223372036854775808≤z∧z<9223372036854775808):zs8 z=(z,true):=if_pos h
end Go.Fw
open Go
namespace Go.Fw
set_option maxRecDepth 100000
theorem zkI(i:Int){n:Nat}(h:1≤n):(kN (z5v i)).raw n=true:=z40 (Nat.le_trans (zhI i) h)
theorem zl9(i:Int){n:Nat}(h:1≤n):(kN (z9m i)).raw n=true:=z40 (Nat.le_trans (zhu i) h)
end Go.Fw
open Go
namespace Go.Fw
set_option maxRecDepth 100000
theorem zrD{a b:Int}(h:a≠b):(a != b)=true:=bne_iff_ne.2 h
theorem zrz{a b:Int}(h:a=b):(a != b)=false:=by subst h;exact bne_self_eq_false _
theorem zrO{a b:Int}(h:a≠b):(a==b)=false:=by
 cases e:a==b
 · rfl
 · exact absurd (beq_iff_eq.1 e) h
end Go.Fw
open Go
namespace Go.Fw
set_option maxRecDepth 100000
theorem zru(i:Int):PCall P 34 [j5 i] (kN (z5v i)).c:=by rw[z1Q];exact z99 i
theorem zrf(i:Int):PCall P 36 [j5 i] (kN (z9m i)).c:=by rw[z1Q];exact zev i
end Go.Fw
open Go
namespace Go.Fw
set_option maxRecDepth 100000
theorem zoc(l:List (Int×Int))(hl:l.length<2^30):PCall P 181 [rdV l,.lit (.func (.func 182) #[] #[])] (.lit (.bool (!l.all rdP))):=
 (zpa l hl).eq (by rw[zdA])
noncomputable def Z0(i:Int):VN:=⟨oN 1,kN (z5v i),kN (z9m i)⟩
theorem zeO(i:Int):PCall P 143 [j5 i] (Z0 i).c:=zmz i (by decide)
def vnL(v:VN):List CV:=v.x.l++(v.y.l++v.z.l)
def vnM(v:VN):List MV:=own (vnL v)
end Go.Fw
open Go IntKind
namespace Go.Fw
set_option maxRecDepth 100000
theorem zob(l:List (Int×Int))(h1:decide ((↑l.length:Int)≤48)=true)(h2:(!l.all rdP)=true)(s6_0:l.length<2^30):PCall P 117 [rdV l] (.lit (.bool false)):=
 j3 (.b 4 h1 (.r 6 ((zoc (l) s6_0).eqB h2) .nil)) (by kernel_rfl)
theorem zoz(l:List (Int×Int))(h1:decide ((↑l.length:Int)≤48)=true)(h2:(!l.all rdP)=false)(s6_0:l.length<2^30):PCall P 117 [rdV l] (.lit (.bool true)):=
 j3 (.b 4 h1 (.r 6 ((zoc (l) s6_0).eqB h2) .nil)) (by kernel_rfl)
theorem zoF(l:List (Int×Int))(h1:decide ((↑l.length:Int)≤48)=false):PCall P 117 [rdV l] (.lit (.bool false)):=
 j3 (.b 4 h1 .nil) (by kernel_rfl)
theorem zph(i:Int)(s1_0:(-9223372036854775808:Int)≤1∧(1:Int)≤9223372036854775807):PCall P 166 [j5 i] (z39 (oN (1:Int)) (kN (z5v i)) (kN (z9m i))):=
 j3 (.r 1 (zeX ((1:Int)) s1_0) (.r 3 (zru (i)) (.r 5 (zrf (i)) (.c (lq 30 30) .nil)))) (by kernel_rfl)
end Go.Fw
open Go
namespace Go.Fw
set_option maxRecDepth 100000
theorem z3y(l:List (Int×Int))(hl:l.length<2^30):PCall P 117 [rdV l] (.lit (.bool (z0H l))):=by
 have e:decide ((l.length:Int)≤48)=decide (l.length≤48):=by rw[decide_eq_decide];omega
 unfold z0H
 rw[←e]
 cases h1:decide ((l.length:Int)≤48)
 · exact zoF l h1
 · cases h2:l.all rdP
   · exact(zob l h1 (by rw[h2];rfl) hl).eq (by rw[show(l.all fun x=>decide (-10000≤x.2∧x.2≤10000))=false from h2];rfl)
   · exact(zoz l h1 (by rw[h2];rfl) hl).eq (by rw[show(l.all fun x=>decide (-10000≤x.2∧x.2≤10000))=true from h2];rfl)
theorem z4C(i:Int):(Z0 i).raw 1=true:=z0s.2 ⟨zjz,zkI i (by decide),zl9 i (by decide)⟩
theorem zhn(i:Int):PCall P 166 [j5 i] (Z0 i).c:=zph i (by decide)
noncomputable def z2b(m:VN)(i:Int):RN×Int:=if m.ok then(z38 m (Z0 i),0)else(.zero,1)
end Go.Fw
open Go IntKind
namespace Go.Fw
set_option maxRecDepth 100000
theorem zhr(l:List (Int×Int))(m:VN)(g:z0H l=true)(g2:m.ok=true)(s4_0:l.length<2^30)(s8_0:VN.raw 1000000 m=true){R:CV→Prop}(hR:Ok P 62 (loopHead P 62 0) ⟨J1 37 [(3,.ptr 0 0),(6,.cv (CV.lit (Value.slice none 0 0))),(17,.cv (.lst l.length (flat rdL l))),(18,.cv (.lit (.int .i64 (↑l.length:Int)))),(19,.cv (.lit (.int .i64 0)))],[some (vnM m)]⟩ (.of R)):Y6 P 62 [rdV l,m.c] R:=
 Y0 (keep:=[3,6,17,18,19]) (σ:=[0]) (.r 4 ((z3y (l) s4_0).eqB g) (.r 8 ((zfC (m) s8_0).eqB g2) (.o 16 .stop .nil))) (by kernel_rfl) rfl hR (.cons (CvL.map_cv _) .nil)
theorem zic(l:List (Int×Int))(m:VN)(g:z0H l=false)(s4_0:l.length<2^30):PCall P 62 [rdV l,m.c] (.tup [CV.lit (Value.slice none 0 0),.lit (.int .i64 1)]):=
 j3 (.r 4 ((z3y (l) s4_0).eqB g) .nil) (by kernel_rfl)
theorem zl6(l:List (Int×Int))(m:VN)(g:z0H l=true)(g2:m.ok=false)(s4_0:l.length<2^30)(s8_0:VN.raw 1000000 m=true):PCall P 62 [rdV l,m.c] (.tup [CV.lit (Value.slice none 0 0),.lit (.int .i64 1)]):=
 j3 (.r 4 ((z3y (l) s4_0).eqB g) (.r 8 ((zfC (m) s8_0).eqB g2) .nil)) (by kernel_rfl)
theorem zjN(l:List (Int×Int))(m:VN)(k mi mo:Int)(h1:decide (k<(↑l.length:Int))=true)(s10_0:(-9223372036854775808:Int)≤mo∧mo≤9223372036854775807)(s15_0:VN.raw 10000 m=true)(s15_1:VN.raw 10000 (Z0 mi)=true)(s16_0:RN.raw 1000000 (oN mo)=true)(s16_1:RN.raw 1000000 (z38 m (Z0 mi))=true)(o1:(0:Int)≤k∧k<(↑l.length:Int))(o2:List.take 2 (List.drop (k.toNat*2) (flat rdL l))=[.lit (.int .i64 mi),.lit (.int .i64 mo)]){R:Goal}(hn:j8 R.n [0,7]=true)(hR:Ok P 62 (loopHead P 62 0) ⟨J1 37 [(3,.ptr 0 0),(6,.sl (0+1) 0 1 10),(17,.cv (.lst l.length (flat rdL l))),(18,.cv (.lit (.int .i64 (↑l.length:Int)))),(19,.cv (.lit (.int .i64 (i64.wrap (k+1)))))],[some (vnM m),some (own ((z3j (oN mo) (z38 m (Z0 mi)))).l)]⟩ R):Ok P 62 (loopHead P 62 0) ⟨J1 37 [(3,.ptr 0 0),(6,.cv (CV.lit (Value.slice none 0 0))),(17,.cv (rdV l)),(18,.cv (j5 (↑l.length:Int))),(19,.cv (j5 k))],[some (vnM m)]⟩ R:=
 z0n (keep:=[3,6,17,18,19]) (σ:=[0,7]) (.b 2 h1 (.c o1 (.c o2 (.c (eqn 2) (.c (lq 2 2) (.c (zgn (mo) s10_0) (.c (zeO (mi)) (.c (zcq (m) (Z0 mi) s15_0 s15_1) (.c (zd5 (oN mo) (z38 m (Z0 mi)) s16_0 s16_1) (.c (lq 120 1099511627776) (.c (lq 1 1099511627776) (.c (show 0<1 from by decide) (.c (eqn 10) (.o 4 (.r (.agg [.lit (.int .i64 mi),.lit (.int .i64 mo)])) (.o 10 (.r (RN.c (oN mo))) (.o 14 (.r (z39 (Z0 mi).x (Z0 mi).y (Z0 mi).z)) (.o 15 (.r (RN.c (z38 m (Z0 mi)))) (.o 16 (.r (RN.c (z3j (oN mo) (z38 m (Z0 mi))))) (.o 22 .stop .nil))))))))))))))))))) (by kernel_rfl) rfl hn hR (.cons (CvL.map_cv _) (.cons (CvL.map_cv _) .nil))
theorem zi4(l:List (Int×Int))(m:VN)(k _mi _mo:Int)(h1:decide (k<(↑l.length:Int))=false){R:Goal}(hR:R.c (.tup [CV.lit (Value.slice none 0 0),.lit (.int .i64 0)])):Ok P 62 (loopHead P 62 0) ⟨J1 37 [(3,.ptr 0 0),(6,.cv (CV.lit (Value.slice none 0 0))),(17,.cv (rdV l)),(18,.cv (j5 (↑l.length:Int))),(19,.cv (j5 k))],[some (vnM m)]⟩ R:=
 okT (.b 2 h1 .nil) (by kernel_rfl) hR
theorem zli(l:List (Int×Int))(m:VN)(k mi mo:Int)(c:Nat)(out:List CV)(h1:decide (k<(↑l.length:Int))=true)(s10_0:(-9223372036854775808:Int)≤mo∧mo≤9223372036854775807)(s15_0:VN.raw 10000 m=true)(s15_1:VN.raw 10000 (Z0 mi)=true)(s16_0:RN.raw 1000000 (oN mo)=true)(s16_1:RN.raw 1000000 (z38 m (Z0 mi))=true)(o1:(0:Int)≤k∧k<(↑l.length:Int))(o2:List.take 2 (List.drop (k.toNat*2) (flat rdL l))=[.lit (.int .i64 mi),.lit (.int .i64 mo)])(o9:(c+1)*120≤1099511627776)(o10:c+1≤1099511627776)(o11:(own out).length=c*10)(o12:z6T (own ((z3j (oN mo) (z38 m (Z0 mi)))).l))(o15:CvL (own out++(own ((z3j (oN mo) (z38 m (Z0 mi)))).l))){R:Goal}(hn:j8 R.n [0,8]=true)(hR:Ok P 62 (loopHead P 62 0) ⟨J1 37 [(3,.ptr 0 0),(6,.sl (0+1) 0 (c+1) 10),(17,.cv (.lst l.length (flat rdL l))),(18,.cv (.lit (.int .i64 (↑l.length:Int)))),(19,.cv (.lit (.int .i64 (i64.wrap (k+1)))))],[some (vnM m),some (own out++(own ((z3j (oN mo) (z38 m (Z0 mi)))).l))]⟩ R):Ok P 62 (loopHead P 62 0) ⟨J1 37 [(3,.ptr 0 0),(6,.sl 1 0 c 10),(17,.cv (rdV l)),(18,.cv (j5 (↑l.length:Int))),(19,.cv (j5 k))],[some (vnM m),some (own out)]⟩ R:=
 z0n (keep:=[3,6,17,18,19]) (σ:=[0,8]) (.b 2 h1 (.c o1 (.c o2 (.c (eqn 2) (.c (lq 2 2) (.c (zgn (mo) s10_0) (.c (zeO (mi)) (.c (zcq (m) (Z0 mi) s15_0 s15_1) (.c (zd5 (oN mo) (z38 m (Z0 mi)) s16_0 s16_1) (.c o9 (.c o10 (.c o11 (.c o12 (.c (eqn 10) (.o 4 (.r (.agg [.lit (.int .i64 mi),.lit (.int .i64 mo)])) (.o 10 (.r (RN.c (oN mo))) (.o 14 (.r (z39 (Z0 mi).x (Z0 mi).y (Z0 mi).z)) (.o 15 (.r (RN.c (z38 m (Z0 mi)))) (.o 16 (.r (RN.c (z3j (oN mo) (z38 m (Z0 mi))))) (.o 22 .stop .nil)))))))))))))))))))) (by kernel_rfl) rfl hn hR (.cons (CvL.map_cv _) (.cons o15 .nil))
theorem ziw(l:List (Int×Int))(m:VN)(k _mi _mo:Int)(c:Nat)(out:List CV)(h1:decide (k<(↑l.length:Int))=false)(o1:List.take (c*10) (List.drop 0 (own out))=List.map MV.cv out){R:Goal}(hR:R.c (.tup [.lst c out,.lit (.int .i64 0)])):Ok P 62 (loopHead P 62 0) ⟨J1 37 [(3,.ptr 0 0),(6,.sl 1 0 c 10),(17,.cv (rdV l)),(18,.cv (j5 (↑l.length:Int))),(19,.cv (j5 k))],[some (vnM m),some (own out)]⟩ R:=
 okT (.b 2 h1 (.c o1 (.o 6 (.r (CV.lit undef) [out]) .nil))) (by kernel_rfl) hR
theorem zpl(m:VN)(i:Int)(h1:(m.ok)=true)(s4_0:VN.raw 1000000 m=true)(s10_0:VN.raw 10000 m=true)(s10_1:VN.raw 10000 (Z0 i)=true):PCall P 112 [m.c,j5 i] (.tup [RN.c (z38 m (Z0 i)),.lit (.int .i64 0)]):=
 j3 (.r 4 ((z2x (m) s4_0).eqB h1) (.r 9 (zhn (i)) (.r 10 (zlQ (m) (Z0 i) s10_0 s10_1) (.c (lq 10 10) .nil)))) (by kernel_rfl)
theorem znM(m:VN)(i:Int)(h1:(m.ok)=false)(s4_0:VN.raw 1000000 m=true):PCall P 112 [m.c,j5 i] (.tup [.agg z0k,.lit (.int .i64 1)]):=
 j3 (.r 4 ((z2x (m) s4_0).eqB h1) (.c (lq 10 10) .nil)) (by kernel_rfl)
end Go.Fw
open Go
namespace Go.Fw
set_option maxRecDepth 100000
theorem z0a{P:Program}{f:FuncId}{args:List CV}{c:CV}(h:PCall P f args (.tup [.lit (.slice none 0 0),c])):PCall P f args (.tup [.lst 0 [],c]):=by
 intro Im w vs him hrep
 refine(h Im w vs him hrep).mono ?_
 rintro e w' ⟨y,v,Im',rfl,rfl,hv,h1,h2,h3,h4⟩
 refine⟨y,_,Im',rfl,rfl,?_,h1,h2,h3,h4⟩
 unfold CV.rep at hv ⊢
 obtain⟨ys,h5,h6⟩:=hv
 refine⟨ys,h5,?_⟩
 unfold CV.repL at h6 ⊢
 obtain⟨y0,ys0,h7,h8,h9⟩:=h6
 refine⟨y0,ys0,h7,?_,h9⟩
 unfold CV.rep at h8 ⊢
 exact⟨none,0,h8,Nat.le_refl _,.inl ⟨rfl,rfl⟩⟩
noncomputable def z2X(m:VN)(x:Int×Int):RN:=z3j (oN x.2) (z38 m (Z0 x.1))
noncomputable def z7u(l:List (Int×Int))(m:VN):List RN×Int:=if z0H l&&m.ok then(l.map (z2X m),0)else([],1)
theorem z3e{l:List (Int×Int)}(h:z0H l=true):l.length≤48∧ ∀k (hk:k<l.length),-10000≤l[k].2∧l[k].2≤10000:=by
 unfold z0H at h
 simp only[Bool.and_eq_true,decide_eq_true_eq,List.all_eq_true]at h
 exact⟨h.1,fun k hk=>h.2 _ (List.getElem_mem hk)⟩
theorem z53{n:Int}(h: -10000≤n∧n≤10000):(K.ofInt n).sz≤2:=K.sz_int n (by decide) (by omega)
theorem zb0(m:VN)(l:List (Int×Int)):flat RN.l (l.map (z2X m))=flat (fun x=>(z2X m x).l) l:=by
 induction l with
 |nil=>rfl
 |cons x l ih=>rw[List.map_cons,z12,z12,ih]
theorem z7R(a b:List CV):CvL (own a++own b):=by rw[show own a++own b=own (a++b)from(z6h a b).symm];exact CvL.map_cv _
theorem zqg(l:List (Int×Int))(m:VN)(g:z0H l=true)(g2:m.ok=true)(hm:m.raw 10000=true):PCall P 62 [rdV l,m.c] (.tup [nmV (l.map (z2X m)),j5 0]):=by
 have h6:=VN.raw_mono hm (show 10000≤1000000 by decide)
 obtain⟨hl,hb⟩:=z3e g
 have hr: ∀i,(Z0 i).raw 10000=true:=fun i=>VN.raw_mono (z4C i) (by decide)
 have hd: ∀i,(z38 m (Z0 i)).raw 1000000=true:=fun i=>RN.raw_mono (zcY hm (hr i)) (by decide)
 cases l with
 |nil=>
  refine z0a (zhr [] m g g2 (by decide) h6 (R := (· = _)) (zi4 [] m 0 0 0 rfl rfl))
 |cons x t=>
  generalize hx:x::t=l at*
  have hne:l≠[]:=by rw[←hx];exact List.cons_ne_nil _ _
  refine zhr l m g g2 (by omega) h6 (R := (· = _)) ?_
  refine z32 (s:=10) l (fun x=>(z2X m x).l) (fun _=>rfl) (fun k o=>Ok P 62 (loopHead P 62 0) (match o with
   |none=>⟨J1 37 [(3,.ptr 0 0),(6,.cv (.lit (.slice none 0 0))),(17,.cv (rdV l)),(18,.cv (j5 l.length)),(19,.cv (j5 k))],[some (vnM m)]⟩
   | some (c, out) => ⟨J1 37 [(3, .ptr 0 0), (6, .sl 1 0 c 10), (17, .cv (rdV l)), (18, .cv (j5 l.length)), (19, .cv (j5 k))], [some (vnM m), some (own out)]⟩) (.of (· = .tup [nmV (l.map (z2X m)), j5 0]))) ?_ ?_ hne ?_
  · intro k hk h
    have b:=hb k hk
    refine zjN l m k l[k].1 l[k].2 (decide_eq_true (by omega)) (by omega) hm (hr _) (z6i (Nat.le_trans (z53 b) (by decide))) (hd _) (by omega) (U3 z03 hk) rfl ?_
    rw[w64 (by omega)]
    exact h
  · intro k hk c out hc ho h
    have b:=hb k hk
    refine zli l m k l[k].1 l[k].2 c out (decide_eq_true (by omega)) (by omega) hm (hr _) (z6i (Nat.le_trans (z53 b) (by decide))) (hd _) (by omega) (U3 z03 hk) (by omega) (by omega) (by simp[own,ho]) ?_ ?_ rfl ?_
    · simp[z6T,MV.one,own,RN.l]
    · exact z7R _ _
    · rw[w64 (by omega),show ∀a b:List CV,own a++own b=own (a++b)from fun a b=>(z6h a b).symm]
      exact h
  · refine ziw l m l.length 0 0 l.length (flat (fun x=>(z2X m x).l) l) (decide_eq_false (by omega)) ?_ ?_
    · rw[List.drop_zero,List.take_of_length_le (by simp[own,z0h (f:=fun x=>(z2X m x).l) (s:=10) (fun _=>rfl)])];rfl
    · show CV.tup _=CV.tup _
      unfold nmV
      rw[zb0,List.length_map]
theorem zpB(l:List (Int×Int))(m:VN)(hl:l.length<2^30)(hm:m.raw 10000=true):PCall P 62 [rdV l,m.c] (.tup [nmV (z7u l m).1,j5 (z7u l m).2]):=by
 unfold z7u
 cases g:z0H l
 · exact z0a (zic l m g hl)
 cases g2:m.ok
 · exact z0a (zl6 l m g g2 hl (VN.raw_mono hm (by decide)))
 · exact zqg l m g g2 hm
theorem zd0(m:VN)(i:Int)(hm:m.raw 10000=true):PCall P 112 [m.c,j5 i] (.tup [(z2b m i).1.c,j5 (z2b m i).2]):=by
 have h6:=VN.raw_mono hm (show 10000≤1000000 by decide)
 have hr:=VN.raw_mono (z4C i) (show 1≤10000 by decide)
 unfold z2b
 cases h:m.ok
 · exact znM m i h h6
 · exact zpl m i h h6 hm hr
end Go.Fw
