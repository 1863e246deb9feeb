/- A part of the proof that the law returns true for every input: an executor for the model's code, and what functions of the program compute. -/
import Derived.Test.YtcafjpldfnegiaaGreatDoorB11
import Derived.Test.YtcafjpldfnegiaaGreatDoorB15
import Derived.Test.YtcafjpldfnegiaaGreatDoorB40
import Derived.Test.YtcafjpldfnegiaaGreatDoorB42
import Derived.Test.YtcafjpldfnegiaaGreatDoorB43
import Derived.Test.YtcafjpldfnegiaaGreatDoorB45
import Derived.Test.YtcafjpldfnegiaaGreatDoorB46
import Derived.KernelRfl
open Go
namespace Go.Fw
set_option maxRecDepth 100000
theorem Q4.Sm.mono{n m:Nat}{x:Q4}(h:Q4.Sm n x)(k:n≤m):Q4.Sm m x:=⟨h.1.mono k,h.2.1.mono k,h.2.2.1.mono k,h.2.2.2.mono k⟩
theorem Q4.Sm.mul{n m:Nat}{x y:Q4}(h:Q4.Sm n x)(k:Q4.Sm m y):Q4.Sm (n+m+4) (Q4.mul x y):=by
 obtain⟨h0,h1,h2,h3⟩:=h
 obtain⟨k0,k1,k2,k3⟩:=k
 have p: ∀{a b:Int},By n a→By m b→By (n+m+1) (a*b):=fun u v=>(u.mul v).mono (by omega)
 have q: ∀{a b:Int} (f:Int),-100≤f∧f≤100→By n a→By m b→By (n+m+1) (f*a*b):=fun f hf u v=>by
  have:=(u.mul v).k hf
  rwa[←Int.mul_assoc]at this
 have s: ∀{a b c d:Int},By (n+m+1) a→By (n+m+1) b→By (n+m+1) c→By (n+m+1) d→By (n+m+4) (a+b+c+d):=fun a b c d=>
  ((a.add b).add (c.mono (by omega))).add (d.mono (by omega))
 exact⟨s (p h0 k0) (q 2 (by decide) h1 k1) (q 3 (by decide) h2 k2) (q 6 (by decide) h3 k3),s (p h0 k1) (p h1 k0) (q 3 (by decide) h2 k3) (q 3 (by decide) h3 k2),
  s (p h0 k2) (p h2 k0) (q 2 (by decide) h1 k3) (q 2 (by decide) h3 k1),s (p h0 k3) (p h3 k0) (p h1 k2) (p h2 k1)⟩
theorem znO(x y:K)(hx:x.sz≤1000000)(hy:y.sz≤1000000)(h0:K.sgn y≠0):PCall P 161 [Q8 x,Q8 y] (.tup [Q8 (K.div x y),j6 0]):=by
 obtain⟨N,hN,ex,ey⟩: ∃N,N≤1000000∧x.sz≤N∧y.sz≤N:=⟨1000000,Nat.le_refl _,hx,hy⟩
 obtain⟨x0,x1,x2,x3,xd⟩:=By.of_sz ex
 obtain⟨y0,y1,y2,y3,yd⟩:=By.of_sz ey
 have sX:Q4.Sm N (qK x):=⟨x0,x1,x2,x3⟩
 have sY:Q4.Sm N (qK y):=⟨y0,y1,y2,y3⟩
 have s1:Q4.Sm N (cj1 (qK y)):=⟨y0,y1.neg,y2,y3.neg⟩
 have s2:Q4.Sm N (cj2 (qK y)):=⟨y0,y1,y2.neg,y3.neg⟩
 have s3:Q4.Sm N (cj3 (qK y)):=⟨y0,y1.neg,y2.neg,y3⟩
 have t12:=s1.mul s2
 have tC:Q4.Sm (N+N+4+N+4) (z0W (qK y)):=t12.mul s3
 have tN:=sY.mul tC
 have tU:=sX.mul tC
 have ny:y≠0:=fun e=>h0 (K.sgn_zero.2 e)
 have nN:=zcJ ny
 have xd0:x.d≠0:=by have:=x.pos;omega
 have e1:Y0 (cj1 (qK y)) (cj2 (qK y))=Q4.mul (cj1 (qK y)) (cj2 (qK y)):=z6o _ _
 have e2:Y0 (Q4.mul (cj1 (qK y)) (cj2 (qK y))) (cj3 (qK y))=z0W (qK y):=z6o _ _
 have e3:Y0 (qK y) (z0W (qK y))=Q4.mul (qK y) (z0W (qK y)):=z6o _ _
 have e4:Y0 (qK x) (z0W (qK y))=Q4.mul (qK x) (z0W (qK y)):=z6o _ _
 have main:=zgk x y (beq_false_of_ne h0) hx hy hy (by decide)
 change (∃n,1≤n∧n≤500000000∧Q4.Sm n (cj1 (qK y)))→(∃n,n≤500000000∧Q4.Sm n (cj1 (qK y))∧Q4.Sm n (cj2 (qK y)))→(∃n,n≤500000000∧Q4.Sm n (Y0 (cj1 (qK y)) (cj2 (qK y)))∧Q4.Sm n (cj3 (qK y)))→
  (∃n,n≤500000000∧Q4.Sm n (qK y)∧Q4.Sm n (Y0 (Y0 (cj1 (qK y)) (cj2 (qK y))) (cj3 (qK y))))→(∃n,n≤500000000∧Q4.Sm n (qK x)∧Q4.Sm n (Y0 (Y0 (cj1 (qK y)) (cj2 (qK y))) (cj3 (qK y))))→
  Two (Y0 (qK x) (Y0 (Y0 (cj1 (qK y)) (cj2 (qK y))) (cj3 (qK y)))).a y.d→Two (Y0 (qK x) (Y0 (Y0 (cj1 (qK y)) (cj2 (qK y))) (cj3 (qK y)))).b y.d→Two (Y0 (qK x) (Y0 (Y0 (cj1 (qK y)) (cj2 (qK y))) (cj3 (qK y)))).c y.d→Two (Y0 (qK x) (Y0 (Y0 (cj1 (qK y)) (cj2 (qK y))) (cj3 (qK y)))).d y.d→
  Two (Y0 (qK y) (Y0 (Y0 (cj1 (qK y)) (cj2 (qK y))) (cj3 (qK y)))).a x.d→(Y0 (qK y) (Y0 (Y0 (cj1 (qK y)) (cj2 (qK y))) (cj3 (qK y)))).a*x.d≠0→
  SmlZ ((Y0 (qK x) (Y0 (Y0 (cj1 (qK y)) (cj2 (qK y))) (cj3 (qK y)))).a*y.d)→SmlZ ((Y0 (qK x) (Y0 (Y0 (cj1 (qK y)) (cj2 (qK y))) (cj3 (qK y)))).b*y.d)→SmlZ ((Y0 (qK x) (Y0 (Y0 (cj1 (qK y)) (cj2 (qK y))) (cj3 (qK y)))).c*y.d)→SmlZ ((Y0 (qK x) (Y0 (Y0 (cj1 (qK y)) (cj2 (qK y))) (cj3 (qK y)))).d*y.d)→
  SmlZ ((Y0 (qK y) (Y0 (Y0 (cj1 (qK y)) (cj2 (qK y))) (cj3 (qK y)))).a*x.d)→
  PCall P 161 [Q8 x,Q8 y] (.tup [Q8 (oq (z3p (Y0 (qK x) (Y0 (Y0 (cj1 (qK y)) (cj2 (qK y))) (cj3 (qK y)))) y.d) ((Y0 (qK y) (Y0 (Y0 (cj1 (qK y)) (cj2 (qK y))) (cj3 (qK y)))).a*x.d)),j6 0])at main
 rw[e1,e2,e3,e4,ziD ny]at main
 have yd':By (N+(N+N+4+N+4)+4) y.d:=yd.mono (by omega)
 have xd':By (N+(N+N+4+N+4)+4) x.d:=xd.mono (by omega)
 have z: ∀{a b:Int},By (N+(N+N+4+N+4)+4) a→By (N+(N+N+4+N+4)+4) b→SmlZ (a*b):=fun h k=>(h.mul k).sml (by omega)
 exact main ⟨N+1,by omega,by omega,s1.mono (by omega)⟩ ⟨N,by omega,s1,s2⟩ ⟨N+N+4,by omega,t12,s3.mono (by omega)⟩ ⟨N+N+4+N+4,by omega,sY.mono (by omega),tC⟩ ⟨N+N+4+N+4,by omega,sX.mono (by omega),tC⟩
  ⟨_,by omega,tU.1,yd'⟩ ⟨_,by omega,tU.2.1,yd'⟩ ⟨_,by omega,tU.2.2.1,yd'⟩ ⟨_,by omega,tU.2.2.2,yd'⟩ ⟨_,by omega,tN.1,xd'⟩ (fun e=>(Int.mul_eq_zero.1 e).elim nN xd0) (z tU.1 yd') (z tU.2.1 yd') (z tU.2.2.1 yd') (z tU.2.2.2 yd') (z tN.1 xd')
end Go.Fw
open Go IntKind
namespace Go.Fw
set_option maxRecDepth 100000
theorem zlT(x y:RN)(g:x.ok=false)(s5_0:RN.raw 1000000 x=true):PCall P 161 [x.c,y.c] (.tup [.agg z09,.lit (.int .i64 1)]):=
 j3 (.r 5 ((V0 (x) s5_0).eqB g) (.c (lq 10 10) .nil)) (by kernel_rfl)
theorem zi3(x y:RN)(g:x.ok=true)(g2:y.ok=false)(s5_0:RN.raw 1000000 x=true)(s9_0:RN.raw 1000000 y=true):PCall P 161 [x.c,y.c] (.tup [.agg z09,.lit (.int .i64 1)]):=
 j3 (.r 5 ((V0 (x) s5_0).eqB g) (.r 9 ((V0 (y) s9_0).eqB g2) (.c (lq 10 10) .nil))) (by kernel_rfl)
theorem zln(x y:K)(g:(y.sgn==0)=true)(s5_0:x.sz≤1000000)(s9_0 s15_0:y.sz≤1000000):PCall P 161 [Q8 x,Q8 y] (.tup [.agg z09,.lit (.int .i64 10)]):=
 j3 (.r 5 (z0n (x) s5_0) (.r 9 (z0n (y) s9_0) (.r 15 (z9x (y) s15_0) (.b 18 g (.c (lq 10 10) .nil))))) (by kernel_rfl)
theorem zpY(x:RN)(h1:decide (z15 x<0)=true)(s3_0 s7_0:RN.raw 1000000 x=true):PCall P 160 [x.c] (RN.c (z4z x)):=
 j3 (.r 3 (z22 (x) s3_0) (.b 5 h1 (.r 7 (zaR (x) s7_0) (.c (lq 10 10) .nil)))) (by kernel_rfl)
theorem znp(x:RN)(h1:decide (z15 x<0)=false)(s3_0 s7_0:RN.raw 1000000 x=true)(s8_0:RN.raw 1000000 (z4z x)=true):PCall P 160 [x.c] (RN.c (z4z (z4z x))):=
 j3 (.r 3 (z22 (x) s3_0) (.b 5 h1 (.r 7 (zaR (x) s7_0) (.r 8 (zaR (z4z x) s8_0) (.c (lq 10 10) .nil))))) (by kernel_rfl)
end Go.Fw
open Go
namespace Go.Fw
set_option maxRecDepth 100000
theorem zci(x y:RN)(hx:x.raw 1000000=true)(hy:y.raw 1000000=true):PCall P 161 [x.c,y.c] (.tup [(z0f x y).1.c,j6 (z0f x y).2]):=by
 unfold z0f
 cases ex:toO x with
 |none=>exact zlT x y (U4 ex) hx
 |some k=>
  cases ey:toO y with
  |none=>exact zi3 x y (z0I ex).1 (U4 ey) hx hy
  |some l=>
   have a:=z0c ex hx
   have b:=z0c ey hy
   rw[z8B (z0I ex).2,z8B (z0I ey).2]
   dsimp only
   by_cases h0:K.sgn l=0
   · rw[if_pos h0]
     exact zln k l (beq_iff_eq.2 h0) a b b
   · rw[if_neg h0]
     exact znO k l a b h0
theorem zcb(x:RN)(hx:x.raw 1000000=true):PCall P 160 [x.c] (z1H x).c:=by
 unfold z1H
 by_cases h:z15 x<0
 · rw[if_pos h];exact zpY x (decide_eq_true h) hx hx
 · rw[if_neg h];exact znp x (decide_eq_false h) hx hx (z3S hx)
end Go.Fw
open Go IntKind
namespace Go.Fw
set_option maxRecDepth 100000
theorem zr5(p:PN)(g:p.ok=false)(s4_0:PN.raw 1000000 p=true):PCall P 105 [p.c] (.tup [z0R,.lit (.int .i64 1)]):=
 j3 (.r 4 ((z0x (p) s4_0).eqB g) (.c (lq 40 40) .nil)) (by kernel_rfl)
theorem zqD(p:PN)(g:p.ok=true)(g1:(z15 p.n.x==0)=false)(s4_0:PN.raw 1000000 p=true)(s13_0 s17_0:RN.raw 1000000 p.n.x=true)(s20_0:(-9223372036854775808:Int)≤1∧(1:Int)≤9223372036854775807)(s22_0:RN.raw 1000000 p.n.x=true)(s23_0:RN.raw 1000000 (oN (1:Int))=true)(s23_1:RN.raw 1000000 (z1H p.n.x)=true)(s33_0:VN.raw 1000000 p.n=true)(s33_1:RN.raw 1000000 (z0f (oN (1:Int)) (z1H p.n.x)).fst=true)(s37_0:RN.raw 1000000 p.d=true)(s37_1:RN.raw 1000000 (z0f (oN (1:Int)) (z1H p.n.x)).fst=true):PCall P 105 [p.c] (.tup [plR (z0A p.n (z0f (oN (1:Int)) (z1H p.n.x)).fst).x (z0A p.n (z0f (oN (1:Int)) (z1H p.n.x)).fst).y (z0A p.n (z0f (oN (1:Int)) (z1H p.n.x)).fst).z (z1Z p.d (z0f (oN (1:Int)) (z1H p.n.x)).fst),.lit (.int .i64 0)]):=
 j3 (.r 4 ((z0x (p) s4_0).eqB g) (.c (lq 10 10) (.r 13 (z22 (p.n.x) s13_0) (.b 15 g1 (.r 17 (z22 (p.n.x) s17_0) (.b 19 g1 (.r 20 (zbx ((1:Int)) s20_0) (.r 22 (zcb (p.n.x) s22_0) (.r 23 (zci (oN (1:Int)) (z1H p.n.x) s23_0 s23_1) (.c (lq 10 10) (.r 33 (z5U (p.n) ((z0f (oN (1:Int)) (z1H p.n.x)).fst) s33_0 s33_1) (.r 37 (zaQ (p.d) ((z0f (oN (1:Int)) (z1H p.n.x)).fst) s37_0 s37_1) (.c (lq 40 40) .nil))))))))))))) (by kernel_rfl)
theorem zon(p:PN)(g:p.ok=true)(g1:(z15 p.n.x==0)=true)(g2:(z15 p.n.y==0)=false)(s4_0:PN.raw 1000000 p=true)(s13_0:RN.raw 1000000 p.n.x=true)(s21_0:RN.raw 1000000 p.n.y=true)(s24_0:(-9223372036854775808:Int)≤1∧(1:Int)≤9223372036854775807)(s26_0:RN.raw 1000000 p.n.y=true)(s27_0:RN.raw 1000000 (oN (1:Int))=true)(s27_1:RN.raw 1000000 (z1H p.n.y)=true)(s37_0:VN.raw 1000000 p.n=true)(s37_1:RN.raw 1000000 (z0f (oN (1:Int)) (z1H p.n.y)).fst=true)(s41_0:RN.raw 1000000 p.d=true)(s41_1:RN.raw 1000000 (z0f (oN (1:Int)) (z1H p.n.y)).fst=true):PCall P 105 [p.c] (.tup [plR (z0A p.n (z0f (oN (1:Int)) (z1H p.n.y)).fst).x (z0A p.n (z0f (oN (1:Int)) (z1H p.n.y)).fst).y (z0A p.n (z0f (oN (1:Int)) (z1H p.n.y)).fst).z (z1Z p.d (z0f (oN (1:Int)) (z1H p.n.y)).fst),.lit (.int .i64 0)]):=
 j3 (.r 4 ((z0x (p) s4_0).eqB g) (.c (lq 10 10) (.r 13 (z22 (p.n.x) s13_0) (.b 15 g1 (.c (lq 10 10) (.r 21 (z22 (p.n.y) s21_0) (.b 23 g2 (.r 24 (zbx ((1:Int)) s24_0) (.r 26 (zcb (p.n.y) s26_0) (.r 27 (zci (oN (1:Int)) (z1H p.n.y) s27_0 s27_1) (.c (lq 10 10) (.r 37 (z5U (p.n) ((z0f (oN (1:Int)) (z1H p.n.y)).fst) s37_0 s37_1) (.r 41 (zaQ (p.d) ((z0f (oN (1:Int)) (z1H p.n.y)).fst) s41_0 s41_1) (.c (lq 40 40) .nil)))))))))))))) (by kernel_rfl)
theorem zpX(p:PN)(g:p.ok=true)(g1:(z15 p.n.x==0)=true)(g2:(z15 p.n.y==0)=true)(s4_0:PN.raw 1000000 p=true)(s13_0:RN.raw 1000000 p.n.x=true)(s21_0:RN.raw 1000000 p.n.y=true)(s28_0:(-9223372036854775808:Int)≤1∧(1:Int)≤9223372036854775807)(s30_0:RN.raw 1000000 p.n.z=true)(s31_0:RN.raw 1000000 (oN (1:Int))=true)(s31_1:RN.raw 1000000 (z1H p.n.z)=true)(s41_0:VN.raw 1000000 p.n=true)(s41_1:RN.raw 1000000 (z0f (oN (1:Int)) (z1H p.n.z)).fst=true)(s45_0:RN.raw 1000000 p.d=true)(s45_1:RN.raw 1000000 (z0f (oN (1:Int)) (z1H p.n.z)).fst=true):PCall P 105 [p.c] (.tup [plR (z0A p.n (z0f (oN (1:Int)) (z1H p.n.z)).fst).x (z0A p.n (z0f (oN (1:Int)) (z1H p.n.z)).fst).y (z0A p.n (z0f (oN (1:Int)) (z1H p.n.z)).fst).z (z1Z p.d (z0f (oN (1:Int)) (z1H p.n.z)).fst),.lit (.int .i64 0)]):=
 j3 (.r 4 ((z0x (p) s4_0).eqB g) (.c (lq 10 10) (.r 13 (z22 (p.n.x) s13_0) (.b 15 g1 (.c (lq 10 10) (.r 21 (z22 (p.n.y) s21_0) (.b 23 g2 (.c (lq 10 10) (.r 28 (zbx ((1:Int)) s28_0) (.r 30 (zcb (p.n.z) s30_0) (.r 31 (zci (oN (1:Int)) (z1H p.n.z) s31_0 s31_1) (.c (lq 10 10) (.r 41 (z5U (p.n) ((z0f (oN (1:Int)) (z1H p.n.z)).fst) s41_0 s41_1) (.r 45 (zaQ (p.d) ((z0f (oN (1:Int)) (z1H p.n.z)).fst) s45_0 s45_1) (.c (lq 40 40) .nil))))))))))))))) (by kernel_rfl)
theorem zpT(p:PN)(h1:(p.ok)=true)(s4_0:PN.raw 1000000 p=true)(s9_0:VN.raw 1000000 p.n=true)(s12_0:RN.raw 1000000 p.d=true):PCall P 107 [p.c] (.tup [plR (zkc p.n).x (zkc p.n).y (zkc p.n).z (z4z p.d),.lit (.int .i64 0)]):=
 j3 (.r 4 ((z0x (p) s4_0).eqB h1) (.r 9 (zkf (p.n) s9_0) (.r 12 (zaR (p.d) s12_0) (.c (lq 40 40) .nil)))) (by kernel_rfl)
theorem zp1(p:PN)(h1:(p.ok)=false)(s4_0:PN.raw 1000000 p=true):PCall P 107 [p.c] (.tup [z0R,.lit (.int .i64 1)]):=
 j3 (.r 4 ((z0x (p) s4_0).eqB h1) (.c (lq 40 40) .nil)) (by kernel_rfl)
theorem zrd(p:PN)(t:Int)(b:Bool)(h1:(p.ok)=true)(h2:(U1 t)=true)(s5_0:PN.raw 1000000 p=true)(s16_0:VN.raw 100000 p.n=true):PCall P 108 [p.c,.agg [j6 t,.lit (.bool b)]] (.tup [plR (zbE p.n t b).x (zbE p.n t b).y (zbE p.n t b).z p.d,.lit (.int .i64 0)]):=
 j3 (.r 5 ((z0x (p) s5_0).eqB h1) (.r 9 ((zmR (t) (b)).eqB h2) (.r 16 (zl6 (p.n) (t) (b) h2 s16_0) (.c (lq 40 40) .nil)))) (by kernel_rfl)
theorem zqA(p:PN)(t:Int)(b:Bool)(h1:(p.ok)=true)(h2:(U1 t)=false)(s5_0:PN.raw 1000000 p=true):PCall P 108 [p.c,.agg [j6 t,.lit (.bool b)]] (.tup [z0R,.lit (.int .i64 1)]):=
 j3 (.r 5 ((z0x (p) s5_0).eqB h1) (.r 9 ((zmR (t) (b)).eqB h2) (.c (lq 40 40) .nil))) (by kernel_rfl)
theorem zpE(p:PN)(t:Int)(b:Bool)(h1:(p.ok)=false)(s5_0:PN.raw 1000000 p=true):PCall P 108 [p.c,.agg [j6 t,.lit (.bool b)]] (.tup [z0R,.lit (.int .i64 1)]):=
 j3 (.r 5 ((z0x (p) s5_0).eqB h1) (.c (lq 40 40) .nil)) (by kernel_rfl)
theorem zqm(p:PN)(v:VN)(h1:(p.ok)=true)(h2:(v.ok)=true)(s5_0:PN.raw 1000000 p=true)(s9_0:VN.raw 1000000 v=true)(s20_0:VN.raw 1000 p.n=true)(s20_1:VN.raw 1000 v=true)(s21_0:RN.raw 1000000 p.d=true)(s21_1:RN.raw 1000000 (zas p.n v)=true):PCall P 109 [p.c,v.c] (.tup [plR p.n.x p.n.y p.n.z (z3n p.d (zas p.n v)),.lit (.int .i64 0)]):=
 j3 (.r 5 ((z0x (p) s5_0).eqB h1) (.r 9 ((z5n (v) s9_0).eqB h2) (.r 20 (zkl (p.n) (v) s20_0 s20_1) (.r 21 (zpa (p.d) (zas p.n v) s21_0 s21_1) (.c (lq 40 40) .nil))))) (by kernel_rfl)
theorem zov(p:PN)(v:VN)(h1:(p.ok)=true)(h2:(v.ok)=false)(s5_0:PN.raw 1000000 p=true)(s9_0:VN.raw 1000000 v=true):PCall P 109 [p.c,v.c] (.tup [z0R,.lit (.int .i64 1)]):=
 j3 (.r 5 ((z0x (p) s5_0).eqB h1) (.r 9 ((z5n (v) s9_0).eqB h2) (.c (lq 40 40) .nil))) (by kernel_rfl)
theorem zms(p:PN)(v:VN)(h1:(p.ok)=false)(s5_0:PN.raw 1000000 p=true):PCall P 109 [p.c,v.c] (.tup [z0R,.lit (.int .i64 1)]):=
 j3 (.r 5 ((z0x (p) s5_0).eqB h1) (.c (lq 40 40) .nil)) (by kernel_rfl)
theorem zpG(p:PN)(k:RN)(h1:(p.ok)=true)(h2:(k.ok)=true)(h3:decide (z15 k≤0)=true)(s5_0:PN.raw 1000000 p=true)(s9_0 s15_0:RN.raw 1000000 k=true):PCall P 110 [p.c,k.c] (.tup [z0R,.lit (.int .i64 2)]):=
 j3 (.r 5 ((z0x (p) s5_0).eqB h1) (.r 9 ((V0 (k) s9_0).eqB h2) (.r 15 (z22 (k) s15_0) (.b 18 h3 (.c (lq 40 40) .nil))))) (by kernel_rfl)
theorem znq(p:PN)(k:RN)(h1:(p.ok)=true)(h2:(k.ok)=true)(h3:decide (z15 k≤0)=false)(s5_0:PN.raw 1000000 p=true)(s9_0 s15_0:RN.raw 1000000 k=true)(s24_0:RN.raw 1000000 p.d=true)(s24_1:RN.raw 1000000 k=true):PCall P 110 [p.c,k.c] (.tup [plR p.n.x p.n.y p.n.z (z1Z p.d k),.lit (.int .i64 0)]):=
 j3 (.r 5 ((z0x (p) s5_0).eqB h1) (.r 9 ((V0 (k) s9_0).eqB h2) (.r 15 (z22 (k) s15_0) (.b 18 h3 (.r 24 (zaQ (p.d) (k) s24_0 s24_1) (.c (lq 40 40) .nil)))))) (by kernel_rfl)
theorem zp4(p:PN)(k:RN)(h1:(p.ok)=true)(h2:(k.ok)=false)(s5_0:PN.raw 1000000 p=true)(s9_0:RN.raw 1000000 k=true):PCall P 110 [p.c,k.c] (.tup [z0R,.lit (.int .i64 1)]):=
 j3 (.r 5 ((z0x (p) s5_0).eqB h1) (.r 9 ((V0 (k) s9_0).eqB h2) (.c (lq 40 40) .nil))) (by kernel_rfl)
theorem zr7(p:PN)(k:RN)(h1:(p.ok)=false)(s5_0:PN.raw 1000000 p=true):PCall P 110 [p.c,k.c] (.tup [z0R,.lit (.int .i64 1)]):=
 j3 (.r 5 ((z0x (p) s5_0).eqB h1) (.c (lq 40 40) .nil)) (by kernel_rfl)
theorem zn7(p:PN)(g:p.ok=false)(s4_0:PN.raw 1000000 p=true):PCall P 91 [p.c] (.tup [z0R,.lit (.int .i64 1)]):=
 j3 (.r 4 ((z1s (p) s4_0).eqB g) (.c (lq 40 40) (.c (lq 1 1) .nil))) (by kernel_rfl)
end Go.Fw
open Go
namespace Go.Fw
set_option maxRecDepth 100000
noncomputable def z0v(p:PN):PN×Int:=if p.ok then can p else(.zero,1)
theorem zrO{a:Int}(h:a=0):(a==0)=true:=beq_iff_eq.2 h
theorem zsu{a:Int}(h:a≠0):(a==0)=false:=by
 cases e:a==0
 · rfl
 · exact absurd (beq_iff_eq.1 e) h
theorem zs0{p:PN}(hok:p.ok=true)(h1:z15 p.n.x=0)(h2:z15 p.n.y=0):z15 p.n.z≠0:=by
 obtain⟨a,b,c,d,rfl⟩:=zoS hok
 have nz:=znL.1 hok
 intro h3
 have e1:K.sgn a=0:=by rw[←zdV a b c];exact h1
 have e2:K.sgn b=0:=by rw[←ze0 a b c];exact h2
 have e3:K.sgn c=0:=by rw[←zdR a b c];exact h3
 exact nz ⟨K.sgn_zero.1 e1,K.sgn_zero.1 e2,K.sgn_zero.1 e3⟩
theorem z65(p:PN)(hp:p.raw 1000=true):PCall P 105 [p.c] (.tup [(z0v p).1.c,j6 (z0v p).2]):=by
 obtain⟨hn,hd⟩:=PN.raw_iff.1 hp
 obtain⟨hx,hy,hz⟩:=Y6.1 hn
 have up: ∀{x:RN},x.raw 1000=true→x.raw 1000000=true:=fun h=>RN.raw_mono h (by decide)
 have P6:p.raw 1000000=true:=PN.raw_mono hp (by decide)
 have N6:p.n.raw 1000000=true:=VN.raw_mono hn (by decide)
 have one:=RN.raw_mono z5T (show 1≤1000000 by decide)
 have ab: ∀{x:RN},x.raw 1000=true→(z1H x).raw 1000000=true:=fun h=>z64 (up h)
 have dv: ∀{x:RN},x.raw 1000=true→(z0f (oN 1) (z1H x)).1.raw 1000000=true:=fun h=>RN.raw_mono (z9W (RN.raw_mono z5T (show 1≤1000 by decide)) (z64 h)) (by decide)
 unfold z0v
 cases e1:p.ok
 · exact zr5 p e1 P6
 · rw[if_pos rfl]
   unfold can
   by_cases h1:z15 p.n.x=0
   · rw[if_neg (fun h=>h h1)]
     by_cases h2:z15 p.n.y=0
     · rw[if_neg (fun h=>h h2),if_pos (zs0 e1 h1 h2)]
       exact zpX p e1 (zrO h1) (zrO h2) P6 (up hx) (up hy) (by decide) (up hz) one (ab hz) N6 (dv hz) (up hd) (dv hz)
     · rw[if_pos h2]
       exact zon p e1 (zrO h1) (zsu h2) P6 (up hx) (up hy) (by decide) (up hy) one (ab hy) N6 (dv hy) (up hd) (dv hy)
   · rw[if_pos h1]
     exact zqD p e1 (zsu h1) P6 (up hx) (up hx) (by decide) (up hx) one (ab hx) N6 (dv hx) (up hd) (dv hx)
theorem z6w(p:PN)(hp:p.raw 1000=true):PCall P 91 [p.c] (.tup [(z0v p).1.c,j6 (z0v p).2]):=by
 have P6:p.raw 1000000=true:=PN.raw_mono hp (by decide)
 unfold z0v
 cases e1:p.ok
 · exact zn7 p e1 P6
 · exact zpV p hp e1
theorem zfU(v:VN):zkc v=ziW v:=by
 unfold zkc ziW zeD
 rw[zrN,show toV (kV 0 0 0)=some ⟨0,0,0⟩from zqM 0 0 0]
 cases toV v with
 |none=>rfl
 |some a=>
  show ofV (some (V3.neg a))=ofV (some (V3.sub ⟨0,0,0⟩ a))
  unfold V3.neg V3.sub
  rw[zee,zee,zee]
theorem zmo(p:PN)(hp:p.raw 1000000=true):PCall P 107 [p.c] (.tup [(opV p).1.c,j6 (opV p).2]):=by
 obtain⟨hn,hd⟩:=PN.raw_iff.1 hp
 unfold opV
 cases e1:p.ok
 · exact zp1 p e1 hp
 · rw[←zfU];exact zpT p e1 hp hn hd
theorem zff(p:PN)(t:Int)(b:Bool)(hp:p.raw 1000=true):PCall P 108 [p.c,.agg [j6 t,.lit (.bool b)]] (.tup [(mvV p t b).1.c,j6 (mvV p t b).2]):=by
 obtain⟨hn,_⟩:=PN.raw_iff.1 hp
 have P1:p.raw 1000000=true:=PN.raw_mono hp (by decide)
 unfold mvV
 cases e1:p.ok
 · exact zpE p t b e1 P1
 · cases e2:U1 t
   · exact zqA p t b e1 e2 P1
   · exact zrd p t b e1 e2 P1 (VN.raw_mono hn (show 1000≤100000 by decide))
theorem zdJ(p:PN)(v:VN)(hp:p.raw 1000=true)(hv:v.raw 1000=true):PCall P 109 [p.c,v.c] (.tup [(shV p v).1.c,j6 (shV p v).2]):=by
 obtain⟨hn,hd⟩:=PN.raw_iff.1 hp
 have P1:p.raw 1000000=true:=PN.raw_mono hp (by decide)
 have V1:=VN.raw_mono hv (show 1000≤1000000 by decide)
 unfold shV
 cases e1:p.ok
 · exact zms p v e1 P1
 · cases e2:v.ok
   · exact zov p v e1 e2 P1 V1
   · exact zqm p v e1 e2 P1 V1 hn hv (RN.raw_mono hd (by decide)) (RN.raw_mono (zaM hn hv) (by decide))
theorem zdu(p:PN)(k:RN)(hp:p.raw 1000=true)(hk:k.raw 1000=true):PCall P 110 [p.c,k.c] (.tup [(scV p k).1.c,j6 (scV p k).2]):=by
 obtain⟨_,hd⟩:=PN.raw_iff.1 hp
 have P1:p.raw 1000000=true:=PN.raw_mono hp (by decide)
 have K1:=RN.raw_mono hk (show 1000≤1000000 by decide)
 unfold scV
 cases e1:p.ok
 · exact zr7 p k e1 P1
 · cases e2:k.ok
   · exact zp4 p k e1 e2 P1 K1
   · by_cases e3:z15 k≤0
     · rw[if_pos e3];exact zpG p k e1 e2 (decide_eq_true e3) P1 K1 K1
     · rw[if_neg e3];exact znq p k e1 e2 (decide_eq_false e3) P1 K1 K1 (RN.raw_mono hd (by decide)) K1
end Go.Fw
open Go IntKind
namespace Go.Fw
set_option maxRecDepth 100000
theorem znm(p q:PN)(h1:((z0v p).2==0)=true)(h2:((z0v q).2==0)=true)(s4_0:PN.raw 1000 p=true)(s12_0:PN.raw 1000 q=true):PCall P 89 [p.c,q.c] (.lit (.bool (rnB (z0v p).fst.n.x (z0v q).fst.n.x&&(rnB (z0v p).fst.n.y (z0v q).fst.n.y&&(rnB (z0v p).fst.n.z (z0v q).fst.n.z&&true))&&(rnB (z0v p).fst.d (z0v q).fst.d&&true)))):=
 j3 (.r 4 (z6w (p) s4_0) (.c (lq 40 40) (.r 12 (z6w (q) s12_0) (.c (lq 40 40) (.b 21 h1 (.b 25 h2 .nil)))))) (by kernel_rfl)
theorem zpS(p q:PN)(h1:((z0v p).2==0)=true)(h2:((z0v q).2==0)=false)(s4_0:PN.raw 1000 p=true)(s12_0:PN.raw 1000 q=true):PCall P 89 [p.c,q.c] (.lit (.bool false)):=
 j3 (.r 4 (z6w (p) s4_0) (.c (lq 40 40) (.r 12 (z6w (q) s12_0) (.c (lq 40 40) (.b 21 h1 (.b 25 h2 .nil)))))) (by kernel_rfl)
theorem zoA(p q:PN)(h1:((z0v p).2==0)=false)(s4_0:PN.raw 1000 p=true)(s12_0:PN.raw 1000 q=true):PCall P 89 [p.c,q.c] (.lit (.bool false)):=
 j3 (.r 4 (z6w (p) s4_0) (.c (lq 40 40) (.r 12 (z6w (q) s12_0) (.c (lq 40 40) (.b 21 h1 .nil))))) (by kernel_rfl)
theorem zoQ(p q:PN)(h1:((z0v p).2==0)=true)(h2:((z0v q).2==0)=true)(s4_0:PN.raw 1000 p=true)(s12_0:PN.raw 1000 q=true):PCall P 106 [p.c,q.c] (.lit (.bool (rnB (z0v p).fst.n.x (z0v q).fst.n.x&&(rnB (z0v p).fst.n.y (z0v q).fst.n.y&&(rnB (z0v p).fst.n.z (z0v q).fst.n.z&&true))&&(rnB (z0v p).fst.d (z0v q).fst.d&&true)))):=
 j3 (.r 4 (z65 (p) s4_0) (.c (lq 40 40) (.r 12 (z65 (q) s12_0) (.c (lq 40 40) (.b 21 h1 (.b 25 h2 .nil)))))) (by kernel_rfl)
theorem zqh(p q:PN)(h1:((z0v p).2==0)=true)(h2:((z0v q).2==0)=false)(s4_0:PN.raw 1000 p=true)(s12_0:PN.raw 1000 q=true):PCall P 106 [p.c,q.c] (.lit (.bool false)):=
 j3 (.r 4 (z65 (p) s4_0) (.c (lq 40 40) (.r 12 (z65 (q) s12_0) (.c (lq 40 40) (.b 21 h1 (.b 25 h2 .nil)))))) (by kernel_rfl)
theorem zmq(p q:PN)(h1:((z0v p).2==0)=false)(s4_0:PN.raw 1000 p=true)(s12_0:PN.raw 1000 q=true):PCall P 106 [p.c,q.c] (.lit (.bool false)):=
 j3 (.r 4 (z65 (p) s4_0) (.c (lq 40 40) (.r 12 (z65 (q) s12_0) (.c (lq 40 40) (.b 21 h1 .nil))))) (by kernel_rfl)
end Go.Fw
open Go
namespace Go.Fw
set_option maxRecDepth 100000
noncomputable def plB(a b:PN):Bool:=rnB a.n.x b.n.x&&(rnB a.n.y b.n.y&&(rnB a.n.z b.n.z&&true))&&(rnB a.d b.d&&true)
noncomputable def z1J(p q:PN):Bool:=(z0v p).2==0&&((z0v q).2==0&&plB (z0v p).1 (z0v q).1)
def z28(b:Bool):Bool:=b
theorem zqp(p q:PN)(hp:p.raw 1000=true)(hq:q.raw 1000=true):PCall P 89 [p.c,q.c] (.lit (.bool (z1J p q))):=by
 unfold z1J
 cases h1:(z0v p).2==0
 · exact zoA p q h1 hp hq
 · cases h2:(z0v q).2==0
   · exact zpS p q h1 h2 hp hq
   · exact znm p q h1 h2 hp hq
theorem zjG(p q:PN)(hp:p.raw 1000=true)(hq:q.raw 1000=true):PCall P 106 [p.c,q.c] (.lit (.bool (z1J p q))):=by
 unfold z1J
 cases h1:(z0v p).2==0
 · exact zmq p q h1 hp hq
 · cases h2:(z0v q).2==0
   · exact zqh p q h1 h2 hp hq
   · exact zoQ p q h1 h2 hp hq
theorem z7D(p q:PN)(hp:p.raw 1000=true)(hq:q.raw 1000=true):PCall P 89 [p.c,q.c] (.lit (.bool (z28 (z1J p q)))):=zqp p q hp hq
theorem z5w(p q:PN)(hp:p.raw 1000=true)(hq:q.raw 1000=true):PCall P 106 [p.c,q.c] (.lit (.bool (z28 (z1J p q)))):=zjG p q hp hq
end Go.Fw
open Go IntKind
namespace Go.Fw
set_option maxRecDepth 100000
theorem zqB(p:PN)(v:VN)(t:Int)(b:Bool)(g:PN.raw 10 p=false)(o2:(plM p)=(plM p)):PCall P 23 [p.c,v.c,.agg [j6 t,.lit (.bool b)]] (.lit (.bool true)):=
 j3 (.c (zen) (.c ((zeo (p)).eqB g) (.c o2 (.o 4 (.r (.lit (.bool true))) (.o 9 (.k (.lit (.bool false)) [(plL p)]) .nil))))) (by kernel_rfl)
theorem zqX(p:PN)(v:VN)(t:Int)(b:Bool)(g:PN.raw 10 p=true)(g2:VN.raw 10 v=false)(o2:(plM p)=(plM p)):PCall P 23 [p.c,v.c,.agg [j6 t,.lit (.bool b)]] (.lit (.bool true)):=
 j3 (.c (zen) (.c ((zeo (p)).eqB g) (.c o2 (.c ((z8z (v)).eqB g2) (.o 4 (.r (.lit (.bool true))) (.o 9 (.k (.lit (.bool true)) [(plL p)]) (.o 13 (.r (.lit (.bool false))) .nil))))))) (by kernel_rfl)
end Go.Fw
open Go IntKind
namespace Go.Fw
set_option maxRecDepth 100000
theorem zq4(p:PN)(v:VN)(t:Int)(b:Bool)(g:PN.raw 10 p=true)(g2:VN.raw 10 v=true)(q0:(!(rnB (z0v p).fst.n.x (z0v p).fst.n.x&&(rnB (z0v p).fst.n.y (z0v p).fst.n.y&&(rnB (z0v p).fst.n.z (z0v p).fst.n.z&&true))&&(rnB (z0v p).fst.d (z0v p).fst.d&&true)))=false)(e0:((z0v p).snd != (z0v p).snd)=false)(s0:(!z28 (z1J p (z0v p).fst)==z28 (z1J p (z0v p).fst))=false)(q1:(!(rnB (opV p).fst.n.x (opV p).fst.n.x&&(rnB (opV p).fst.n.y (opV p).fst.n.y&&(rnB (opV p).fst.n.z (opV p).fst.n.z&&true))&&(rnB (opV p).fst.d (opV p).fst.d&&true)))=false)(e1:((opV p).snd != (opV p).snd)=false)(s1:(!z28 (z1J p (opV p).fst)==z28 (z1J p (opV p).fst))=false)(q2:(!(rnB (mvV p t b).fst.n.x (mvV p t b).fst.n.x&&(rnB (mvV p t b).fst.n.y (mvV p t b).fst.n.y&&(rnB (mvV p t b).fst.n.z (mvV p t b).fst.n.z&&true))&&(rnB (mvV p t b).fst.d (mvV p t b).fst.d&&true)))=false)(e2:((mvV p t b).snd != (mvV p t b).snd)=false)(s2:(!z28 (z1J p (mvV p t b).fst)==z28 (z1J p (mvV p t b).fst))=false)(q3:(!(rnB (shV p v).fst.n.x (shV p v).fst.n.x&&(rnB (shV p v).fst.n.y (shV p v).fst.n.y&&(rnB (shV p v).fst.n.z (shV p v).fst.n.z&&true))&&(rnB (shV p v).fst.d (shV p v).fst.d&&true)))=false)(e3:((shV p v).snd != (shV p v).snd)=false)(s3:(!z28 (z1J p (shV p v).fst)==z28 (z1J p (shV p v).fst))=false)(q4:(rnB (scV p v.z).fst.n.x (scV p v.z).fst.n.x&&(rnB (scV p v.z).fst.n.y (scV p v.z).fst.n.y&&(rnB (scV p v.z).fst.n.z (scV p v.z).fst.n.z&&true))&&(rnB (scV p v.z).fst.d (scV p v.z).fst.d&&true))=true)(s18_0 s26_0 s44_0:PN.raw 1000 p=true)(s44_1:PN.raw 1000 (z0v p).fst=true)(s47_0:PN.raw 1000 p=true)(s47_1:PN.raw 1000 (z0v p).fst=true)(s52_0 s59_0:PN.raw 1000000 p=true)(s76_0:PN.raw 1000 p=true)(s76_1:PN.raw 1000 (opV p).fst=true)(s79_0:PN.raw 1000 p=true)(s79_1:PN.raw 1000 (opV p).fst=true)(s85_0 s93_0 s110_0:PN.raw 1000 p=true)(s110_1:PN.raw 1000 (mvV p t b).fst=true)(s113_0:PN.raw 1000 p=true)(s113_1:PN.raw 1000 (mvV p t b).fst=true)(s119_0:PN.raw 1000 p=true)(s119_1:VN.raw 1000 v=true)(s127_0:PN.raw 1000 p=true)(s127_1:VN.raw 1000 v=true)(s144_0:PN.raw 1000 p=true)(s144_1:PN.raw 1000 (shV p v).fst=true)(s147_0:PN.raw 1000 p=true)(s147_1:PN.raw 1000 (shV p v).fst=true)(s154_0:PN.raw 1000 p=true)(s154_1:RN.raw 1000 v.z=true)(s163_0:PN.raw 1000 p=true)(s163_1:RN.raw 1000 v.z=true)(o2:(plM p)=(plM p)):PCall P 23 [p.c,v.c,.agg [j6 t,.lit (.bool b)]] (.lit (.bool ((scV p v.z).2==(scV p v.z).2))):=
 j3 (.c (zen) (.c ((zeo (p)).eqB g) (.c o2 (.c ((z8z (v)).eqB g2) (.c (z6w (p) s18_0) (.c (lq 40 40) (.c (z65 (p) s26_0) (.c (lq 40 40) (.c q0 (.c e0 (.c (z7D (p) ((z0v p).fst) s44_0 s44_1) (.c (z5w (p) ((z0v p).fst) s47_0 s47_1) (.c s0 (.c (zsh (p) s52_0) (.c (lq 40 40) (.c (zmo (p) s59_0) (.c (lq 40 40) (.c q1 (.c e1 (.c (z7D (p) ((opV p).fst) s76_0 s76_1) (.c (z5w (p) ((opV p).fst) s79_0 s79_1) (.c s1 (.c (zoT (p) (t) (b) s85_0) (.c (lq 40 40) (.c (zff (p) (t) (b) s93_0) (.c (lq 40 40) (.c q2 (.c e2 (.c (z7D (p) ((mvV p t b).fst) s110_0 s110_1) (.c (z5w (p) ((mvV p t b).fst) s113_0 s113_1) (.c s2 (.c (zii (p) (v) s119_0 s119_1) (.c (lq 40 40) (.c (zdJ (p) (v) s127_0 s127_1) (.c (lq 40 40) (.c q3 (.c e3 (.c (z7D (p) ((shV p v).fst) s144_0 s144_1) (.c (z5w (p) ((shV p v).fst) s147_0 s147_1) (.c s3 (.c (zhO (p) (v.z) s154_0 s154_1) (.c (lq 40 40) (.c (zdu (p) (v.z) s163_0 s163_1) (.c (lq 40 40) (.c q4 (.o 4 (.r (.lit (.bool true))) (.o 9 (.k (.lit (.bool true)) [(plL p)]) (.o 13 (.r (.lit (.bool true))) (.o 18 (.r (.tup [plR (z0v p).fst.n.x (z0v p).fst.n.y (z0v p).fst.n.z (z0v p).fst.d,.lit (.int .i64 (z0v p).2)])) (.o 26 (.r (.tup [plR (z0v p).fst.n.x (z0v p).fst.n.y (z0v p).fst.n.z (z0v p).fst.d,.lit (.int .i64 (z0v p).2)])) (.o 36 (.b false) (.o 41 (.b false) (.o 44 (.r (.lit (.bool (z28 (z1J p (z0v p).fst))))) (.o 47 (.r (.lit (.bool (z28 (z1J p (z0v p).fst))))) (.o 50 (.b false) (.o 52 (.r (.tup [plR (opV p).fst.n.x (opV p).fst.n.y (opV p).fst.n.z (opV p).fst.d,.lit (.int .i64 (opV p).2)])) (.o 59 (.r (.tup [plR (opV p).fst.n.x (opV p).fst.n.y (opV p).fst.n.z (opV p).fst.d,.lit (.int .i64 (opV p).2)])) (.o 68 (.b false) (.o 73 (.b false) (.o 76 (.r (.lit (.bool (z28 (z1J p (opV p).fst))))) (.o 79 (.r (.lit (.bool (z28 (z1J p (opV p).fst))))) (.o 82 (.b false) (.o 85 (.r (.tup [plR (mvV p t b).fst.n.x (mvV p t b).fst.n.y (mvV p t b).fst.n.z (mvV p t b).fst.d,.lit (.int .i64 (mvV p t b).2)])) (.o 93 (.r (.tup [plR (mvV p t b).fst.n.x (mvV p t b).fst.n.y (mvV p t b).fst.n.z (mvV p t b).fst.d,.lit (.int .i64 (mvV p t b).2)])) (.o 102 (.b false) (.o 107 (.b false) (.o 110 (.r (.lit (.bool (z28 (z1J p (mvV p t b).fst))))) (.o 113 (.r (.lit (.bool (z28 (z1J p (mvV p t b).fst))))) (.o 116 (.b false) (.o 119 (.r (.tup [plR (shV p v).fst.n.x (shV p v).fst.n.y (shV p v).fst.n.z (shV p v).fst.d,.lit (.int .i64 (shV p v).2)])) (.o 127 (.r (.tup [plR (shV p v).fst.n.x (shV p v).fst.n.y (shV p v).fst.n.z (shV p v).fst.d,.lit (.int .i64 (shV p v).2)])) (.o 136 (.b false) (.o 141 (.b false) (.o 144 (.r (.lit (.bool (z28 (z1J p (shV p v).fst))))) (.o 147 (.r (.lit (.bool (z28 (z1J p (shV p v).fst))))) (.o 150 (.b false) (.o 154 (.r (.tup [plR (scV p v.z).fst.n.x (scV p v.z).fst.n.y (scV p v.z).fst.n.z (scV p v.z).fst.d,.lit (.int .i64 (scV p v.z).2)])) (.o 163 (.r (.tup [plR (scV p v.z).fst.n.x (scV p v.z).fst.n.y (scV p v.z).fst.n.z (scV p v.z).fst.d,.lit (.int .i64 (scV p v.z).2)])) (.o 172 (.b true) .nil))))))))))))))))))))))))))))))))))))))))))))))))))))))))))))))))))))))))))))))) (by kernel_rfl)
end Go.Fw
open Go
namespace Go.Fw
set_option maxRecDepth 100000
theorem z5E(x:RN):rnB x x=true:=z3M.2 rfl
theorem zaV(p:PN):(rnB p.n.x p.n.x&&(rnB p.n.y p.n.y&&(rnB p.n.z p.n.z&&true))&&(rnB p.d p.d&&true))=true:=by
 rw[z5E,z5E,z5E,z5E];rfl
theorem z7C(p:PN):(!(rnB p.n.x p.n.x&&(rnB p.n.y p.n.y&&(rnB p.n.z p.n.z&&true))&&(rnB p.d p.d&&true)))=false:=by
 rw[zaV];rfl
theorem z5y(a:Int):(a != a)=false:=by
 unfold bne
 rw[beq_self_eq_true];rfl
theorem z4r(b:Bool):(!(z28 b==z28 b))=false:=by cases b<;>rfl
theorem zaC{c:Bool}{a:PN×Int}{n:Nat}{k:Int}(h:a.1.raw n=true):(if c then a else(PN.zero,k)).1.raw n=true:=by
 cases c
 · exact z6p _
 · exact h
theorem z91(p:PN)(v:VN)(t:Int)(b:Bool):PCall P 23 [p.c,v.c,.agg [j6 t,.lit (.bool b)]] (.lit (.bool true)):=by
 cases g:p.raw 10
 · exact zqB p v t b g rfl
 cases g2:v.raw 10
 · exact zqX p v t b g g2 rfl
 have P3:p.raw 1000=true:=PN.raw_mono g (by decide)
 have P6:p.raw 1000000=true:=PN.raw_mono g (by decide)
 have V3:v.raw 1000=true:=VN.raw_mono g2 (by decide)
 obtain⟨hn,hd⟩:=PN.raw_iff.1 g
 obtain⟨_,_,hz⟩:=Y6.1 g2
 have z:(oV 0 0 0).raw 10=true:=by rw[zrN];exact Y6.2 ⟨z1d zgM,z1d zgM,z1d zgM⟩
 have c1:(z0v p).1.raw 1000=true:=zaC (PN.raw_mono (zlE (by decide) g) (by decide))
 have c2:(opV p).1.raw 1000=true:=zaC (PN.raw_iff.2 ⟨VN.raw_mono (zh9 z hn) (by decide),RN.raw_mono (z3S hd) (by decide)⟩)
 have c3:(mvV p t b).1.raw 1000=true:=zaC (PN.raw_iff.2 ⟨VN.raw_mono (zbY t b hn) (by decide),RN.raw_mono hd (by decide)⟩)
 have c4:(shV p v).1.raw 1000=true:=zaC (PN.raw_iff.2 ⟨VN.raw_mono hn (by decide),RN.raw_mono (zdy (RN.raw_mono hd (show 10≤65 by decide)) (zeb hn g2)) (by decide)⟩)
 have k3:v.z.raw 1000=true:=RN.raw_mono hz (by decide)
 exact(zq4 p v t b g g2 (z7C _) (z5y _) (z4r _) (z7C _) (z5y _) (z4r _) (z7C _) (z5y _) (z4r _) (z7C _) (z5y _) (z4r _) (zaV _)
  P3 P3 P3 c1 P3 c1 P6 P6 P3 c2 P3 c2 P3 P3 P3 c3 P3 c3 P3 V3 P3 V3 P3 c4 P3 c4 P3 k3 P3 k3 rfl).eqB (beq_self_eq_true _)
end Go.Fw
open Go Go.Proofs Go.Proofs.YtcafjpldfnegiaaGreatDoor
namespace Go.Fw
set_option maxRecDepth 100000
def RN.v(x:RN):List Value:=[.bool x.b0,.string x.s0,.bool x.b1,.string x.s1,.bool x.b2,.string x.s2,.bool x.b3,.string x.s3,.bool x.b4,.string x.s4]
abbrev zsD:List CT:=[.b,.s,.b,.s,.b,.s,.b,.s,.b,.s]
abbrev zog:List CT:=[.b,.s,.b,.s,.b,.s,.b,.s,.b,.s,.b,.s,.b,.s,.b,.s,.b,.s,.b,.s,.b,.s,.b,.s,.b,.s,.b,.s,.b,.s]
theorem z5t{ts:List CT}{l:List Value}(h:CTs (.b:: .s:: .b:: .s:: .b:: .s:: .b:: .s:: .b:: .s::ts) l): ∃(x:RN) (m:List Value),l=x.v++m∧CTs ts m:=by
 simp only[CTs,CT.ok]at h
 obtain⟨_,_,rfl,⟨b0,rfl⟩,_,_,rfl,⟨s0,rfl⟩,_,_,rfl,⟨b1,rfl⟩,_,_,rfl,⟨s1,rfl⟩,_,_,rfl,⟨b2,rfl⟩,_,_,rfl,⟨s2,rfl⟩,_,_,rfl,⟨b3,rfl⟩,_,_,rfl,⟨s3,rfl⟩,_,_,rfl,⟨b4,rfl⟩,_,m,rfl,⟨s4,rfl⟩,hm⟩:=h
 exact⟨⟨b0,s0,b1,s1,b2,s2,b3,s3,b4,s4⟩,m,rfl,hm⟩
theorem zaq{ts:List CT}{l:List Value}(h:CTs (zog++ts) l): ∃(x y z:RN) (m:List Value),l=x.v++(y.v++(z.v++m))∧CTs ts m:=by
 obtain⟨x,m1,rfl,h1⟩:=z5t h
 obtain⟨y,m2,rfl,h2⟩:=z5t h1
 obtain⟨z,m3,rfl,h3⟩:=z5t h2
 exact⟨x,y,z,m3,rfl,h3⟩
theorem zeA{l:List Value}(h:CTs zog l): ∃x y z:RN,l=x.v++(y.v++z.v):=by
 obtain⟨x,y,z,m,rfl,h4⟩:=zaq (ts:=[]) h
 obtain rfl:m=[]:=h4
 exact⟨x,y,z,by simp⟩
theorem zt0:z4a Tryz.prog 8 51=some zog:=by kernel_rfl
theorem zjE(I:Imm)(x y z:RN):CV.rep I (z2k x y z) (.agg (x.v++(y.v++z.v)).toArray):=z9i I (x.v++(y.v++z.v))
end Go.Fw
open Go Go.Proofs Go.Proofs.YtcafjpldfnegiaaGreatDoor
namespace Go.Fw
set_option maxRecDepth 100000
theorem zp8:z4a Tryz.prog 8 99=some (zog++zsD):=by kernel_rfl
theorem zbI{l:List Value}(h:CTs (zog++zsD) l): ∃x y z d:RN,l=x.v++(y.v++(z.v++d.v)):=by
 obtain⟨x,y,z,m,rfl,hm⟩:=zaq h
 obtain⟨d,m',rfl,hm'⟩:=z5t (ts:=[]) hm
 obtain rfl:m'=[]:=hm'
 exact⟨x,y,z,d,by simp⟩
theorem zdE(I:Imm)(x y z d:RN):CV.rep I (plR x y z d) (.agg (x.v++(y.v++(z.v++d.v))).toArray):=z9i I (x.v++(y.v++(z.v++d.v)))
end Go.Fw
open Go
namespace Go.Fw
set_option maxRecDepth 100000
theorem z9E(x y z d a b c:RN)(t:Int)(f:Bool):PCall P 23 [plR x y z d,z2k a b c,.agg [j6 t,.lit (.bool f)]] (.lit (.bool true)):=
 z91 ⟨⟨x,y,z⟩,d⟩ ⟨a,b,c⟩ t f
end Go.Fw
open Go Go.Proofs Go.Proofs.YtcafjpldfnegiaaGreatDoor
namespace Go.Fw
open Go.ChangeShapes Go.WideShapes Go.ChangeAt Go.RowKit
set_option maxRecDepth 100000
theorem zcm {H : Type} {enc : TypeId × Value → H} (W : World) (base : Nat) (args : Array Value) (ds gs : List (DataW H)) (before : List MemPlace)
    (hval: ∀(j:Nat) t v,Tryz.f23.params[j]?=some t→args[j]?=some v→Value.okWide Tryz.prog W .any base t v)
    (hW:DataW.Whole enc Tryz.prog Tryz.f23.params.toList Rows.planeChangesSpec.vars false W args.toList ds gs before):
    Calls Tryz.prog 23 args W fun e W'=>e= .returned (.bool true)∧Below W.heap.size W W':=by
 obtain⟨p,q,hA,hV,_,_,_⟩:=hW
 rw[Tryz.params23]at hA hval
 obtain⟨v0,vs0,d0,ds0,p0,q0,ha0,hd0,_,h0,r0⟩:=trodAll_cons hA
 obtain⟨v1,vs1,d1,ds1,p1,q1,ha1,hd1,_,h1,r1⟩:=trodAll_cons r0
 obtain⟨v2,vs2,d2,ds2,p2,q2,ha2,hd2,_,h2,r2⟩:=trodAll_cons r1
 obtain⟨hz,hzd,_⟩:=trodAll_nil r2
 subst hz ha2 ha1
 obtain rfl:args= #[v0,v1,v2]:=by cases args;simp_all
 obtain⟨cs0,rfl,hc0⟩:=z5V 8 zp8 (by kernel_rfl) (hval 0 99 v0 rfl rfl) h0
 obtain⟨x0,y0,z0,d0,rfl⟩:=zbI hc0
 obtain⟨cs1,rfl,hc1⟩:=z5V 8 zt0 (by kernel_rfl) (hval 1 51 v1 rfl rfl) h1
 obtain⟨x1,y1,z1,rfl⟩:=zeA hc1
 obtain⟨cs2,rfl,hc2⟩:=z5V 8 (show z4a Tryz.prog 8 31=some [.i .i64,.b]from by kernel_rfl) (by kernel_rfl) (hval 2 31 v2 rfl rfl) h2
 simp only[CTs,CT.ok]at hc2
 obtain⟨_,_,rfl,⟨n2,rfl,_⟩,_,_,rfl,⟨b2,rfl⟩,rfl⟩:=hc2
 exact zgv (z9E x0 y0 z0 d0 x1 y1 z1 n2 b2) ⟨_,_,rfl,zdE _ _ _ _ _,⟨_,_,rfl,zjE _ _ _ _,⟨_,_,rfl,z9i _ _,rfl⟩⟩⟩
end Go.Fw
