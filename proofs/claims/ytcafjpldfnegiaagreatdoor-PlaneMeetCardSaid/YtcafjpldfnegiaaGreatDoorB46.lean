/- A part of the proof that the law returns true for every input: an executor for the model's code, and what functions of the program compute. -/
import Derived.Test.YtcafjpldfnegiaaGreatDoorB11
import Derived.Test.YtcafjpldfnegiaaGreatDoorB15
import Derived.Test.YtcafjpldfnegiaaGreatDoorB39
import Derived.Test.YtcafjpldfnegiaaGreatDoorB41
import Derived.Test.YtcafjpldfnegiaaGreatDoorB42
import Derived.Test.YtcafjpldfnegiaaGreatDoorB44
import Derived.Test.YtcafjpldfnegiaaGreatDoorB45
import Derived.KernelRfl
open Go
namespace Go.Fw
set_option maxRecDepth 100000
theorem Q4.Sm.mono{n m:Nat}{x:Q4}(h:Q4.Sm n x)(k:n≤m):Q4.Sm m x:=⟨h.1.mono k,h.2.1.mono k,h.2.2.1.mono k,h.2.2.2.mono k⟩
theorem Q4.Sm.mul{n m:Nat}{x y:Q4}(h:Q4.Sm n x)(k:Q4.Sm m y):Q4.Sm (n+m+4) (Q4.mul x y):=by
 obtain⟨h0,h1,h2,h3⟩:=h
 obtain⟨k0,k1,k2,k3⟩:=k
 have p: ∀{a b:Int},By n a→By m b→By (n+m+1) (a*b):=fun u v=>(u.mul v).mono (by omega)
 have q: ∀{a b:Int} (f:Int),-100≤f∧f≤100→By n a→By m b→By (n+m+1) (f*a*b):=fun f hf u v=>by
  have:=(u.mul v).k hf
  rwa[←Int.mul_assoc]at this
 have s: ∀{a b c d:Int},By (n+m+1) a→By (n+m+1) b→By (n+m+1) c→By (n+m+1) d→By (n+m+4) (a+b+c+d):=fun a b c d=>
  ((a.add b).add (c.mono (by omega))).add (d.mono (by omega))
 exact⟨s (p h0 k0) (q 2 (by decide) h1 k1) (q 3 (by decide) h2 k2) (q 6 (by decide) h3 k3),s (p h0 k1) (p h1 k0) (q 3 (by decide) h2 k3) (q 3 (by decide) h3 k2),
  s (p h0 k2) (p h2 k0) (q 2 (by decide) h1 k3) (q 2 (by decide) h3 k1),s (p h0 k3) (p h3 k0) (p h1 k2) (p h2 k1)⟩
theorem znI(x y:K)(hx:x.sz≤1000000)(hy:y.sz≤1000000)(h0:K.sgn y≠0):PCall P 161 [Z0 x,Z0 y] (.tup [Z0 (K.div x y),j6 0]):=by
 obtain⟨N,hN,ex,ey⟩: ∃N,N≤1000000∧x.sz≤N∧y.sz≤N:=⟨1000000,Nat.le_refl _,hx,hy⟩
 obtain⟨x0,x1,x2,x3,xd⟩:=By.of_sz ex
 obtain⟨y0,y1,y2,y3,yd⟩:=By.of_sz ey
 have sX:Q4.Sm N (qK x):=⟨x0,x1,x2,x3⟩
 have sY:Q4.Sm N (qK y):=⟨y0,y1,y2,y3⟩
 have s1:Q4.Sm N (cj1 (qK y)):=⟨y0,y1.neg,y2,y3.neg⟩
 have s2:Q4.Sm N (cj2 (qK y)):=⟨y0,y1,y2.neg,y3.neg⟩
 have s3:Q4.Sm N (cj3 (qK y)):=⟨y0,y1.neg,y2.neg,y3⟩
 have t12:=s1.mul s2
 have tC:Q4.Sm (N+N+4+N+4) (z0T (qK y)):=t12.mul s3
 have tN:=sY.mul tC
 have tU:=sX.mul tC
 have ny:y≠0:=fun e=>h0 (K.sgn_zero.2 e)
 have nN:=zcj ny
 have xd0:x.d≠0:=by have:=x.pos;omega
 have e1:Y2 (cj1 (qK y)) (cj2 (qK y))=Q4.mul (cj1 (qK y)) (cj2 (qK y)):=z5E _ _
 have e2:Y2 (Q4.mul (cj1 (qK y)) (cj2 (qK y))) (cj3 (qK y))=z0T (qK y):=z5E _ _
 have e3:Y2 (qK y) (z0T (qK y))=Q4.mul (qK y) (z0T (qK y)):=z5E _ _
 have e4:Y2 (qK x) (z0T (qK y))=Q4.mul (qK x) (z0T (qK y)):=z5E _ _
 have main:=zeG x y (beq_false_of_ne h0) hx hy hy (by decide)
 change (∃n,1≤n∧n≤500000000∧Q4.Sm n (cj1 (qK y)))→(∃n,n≤500000000∧Q4.Sm n (cj1 (qK y))∧Q4.Sm n (cj2 (qK y)))→(∃n,n≤500000000∧Q4.Sm n (Y2 (cj1 (qK y)) (cj2 (qK y)))∧Q4.Sm n (cj3 (qK y)))→
  (∃n,n≤500000000∧Q4.Sm n (qK y)∧Q4.Sm n (Y2 (Y2 (cj1 (qK y)) (cj2 (qK y))) (cj3 (qK y))))→(∃n,n≤500000000∧Q4.Sm n (qK x)∧Q4.Sm n (Y2 (Y2 (cj1 (qK y)) (cj2 (qK y))) (cj3 (qK y))))→
  Two (Y2 (qK x) (Y2 (Y2 (cj1 (qK y)) (cj2 (qK y))) (cj3 (qK y)))).a y.d→Two (Y2 (qK x) (Y2 (Y2 (cj1 (qK y)) (cj2 (qK y))) (cj3 (qK y)))).b y.d→Two (Y2 (qK x) (Y2 (Y2 (cj1 (qK y)) (cj2 (qK y))) (cj3 (qK y)))).c y.d→Two (Y2 (qK x) (Y2 (Y2 (cj1 (qK y)) (cj2 (qK y))) (cj3 (qK y)))).d y.d→
  Two (Y2 (qK y) (Y2 (Y2 (cj1 (qK y)) (cj2 (qK y))) (cj3 (qK y)))).a x.d→(Y2 (qK y) (Y2 (Y2 (cj1 (qK y)) (cj2 (qK y))) (cj3 (qK y)))).a*x.d≠0→
  SmlZ ((Y2 (qK x) (Y2 (Y2 (cj1 (qK y)) (cj2 (qK y))) (cj3 (qK y)))).a*y.d)→SmlZ ((Y2 (qK x) (Y2 (Y2 (cj1 (qK y)) (cj2 (qK y))) (cj3 (qK y)))).b*y.d)→SmlZ ((Y2 (qK x) (Y2 (Y2 (cj1 (qK y)) (cj2 (qK y))) (cj3 (qK y)))).c*y.d)→SmlZ ((Y2 (qK x) (Y2 (Y2 (cj1 (qK y)) (cj2 (qK y))) (cj3 (qK y)))).d*y.d)→
  SmlZ ((Y2 (qK y) (Y2 (Y2 (cj1 (qK y)) (cj2 (qK y))) (cj3 (qK y)))).a*x.d)→
  PCall P 161 [Z0 x,Z0 y] (.tup [Z0 (oq (z3d (Y2 (qK x) (Y2 (Y2 (cj1 (qK y)) (cj2 (qK y))) (cj3 (qK y)))) y.d) ((Y2 (qK y) (Y2 (Y2 (cj1 (qK y)) (cj2 (qK y))) (cj3 (qK y)))).a*x.d)),j6 0])at main
 rw[e1,e2,e3,e4,zjF ny]at main
 have yd':By (N+(N+N+4+N+4)+4) y.d:=yd.mono (by omega)
 have xd':By (N+(N+N+4+N+4)+4) x.d:=xd.mono (by omega)
 have z: ∀{a b:Int},By (N+(N+N+4+N+4)+4) a→By (N+(N+N+4+N+4)+4) b→SmlZ (a*b):=fun h k=>(h.mul k).sml (by omega)
 exact main ⟨N+1,by omega,by omega,s1.mono (by omega)⟩ ⟨N,by omega,s1,s2⟩ ⟨N+N+4,by omega,t12,s3.mono (by omega)⟩ ⟨N+N+4+N+4,by omega,sY.mono (by omega),tC⟩ ⟨N+N+4+N+4,by omega,sX.mono (by omega),tC⟩
  ⟨_,by omega,tU.1,yd'⟩ ⟨_,by omega,tU.2.1,yd'⟩ ⟨_,by omega,tU.2.2.1,yd'⟩ ⟨_,by omega,tU.2.2.2,yd'⟩ ⟨_,by omega,tN.1,xd'⟩ (fun e=>(Int.mul_eq_zero.1 e).elim nN xd0) (z tU.1 yd') (z tU.2.1 yd') (z tU.2.2.1 yd') (z tU.2.2.2 yd') (z tN.1 xd')
end Go.Fw
open Go IntKind
namespace Go.Fw
set_option maxRecDepth 100000
theorem zi0(x y:RN)(g:x.ok=false)(s5_0:RN.raw 1000000 x=true):PCall P 161 [x.c,y.c] (.tup [.agg z0b,.lit (.int .i64 1)]):=
 j3 (.r 5 ((z06 (x) s5_0).eqB g) (.c (lq 10 10) .nil)) (by kernel_rfl)
theorem ziu(x y:RN)(g:x.ok=true)(g2:y.ok=false)(s5_0:RN.raw 1000000 x=true)(s9_0:RN.raw 1000000 y=true):PCall P 161 [x.c,y.c] (.tup [.agg z0b,.lit (.int .i64 1)]):=
 j3 (.r 5 ((z06 (x) s5_0).eqB g) (.r 9 ((z06 (y) s9_0).eqB g2) (.c (lq 10 10) .nil))) (by kernel_rfl)
theorem ziR(x y:K)(g:(y.sgn==0)=true)(s5_0:x.sz≤1000000)(s9_0 s15_0:y.sz≤1000000):PCall P 161 [Z0 x,Z0 y] (.tup [.agg z0b,.lit (.int .i64 10)]):=
 j3 (.r 5 (z0i (x) s5_0) (.r 9 (z0i (y) s9_0) (.r 15 (z94 (y) s15_0) (.b 18 g (.c (lq 10 10) .nil))))) (by kernel_rfl)
theorem zni(x y:RN)(h1:(x.ok)=true)(h2:(y.ok)=true)(s4_0:RN.raw 1000000 x=true)(s8_0:RN.raw 1000000 y=true)(s14_0:RN.raw 1000000 x=true)(s14_1:RN.raw 1000000 y=true)(s15_0:RN.raw 1000000 (z6x x y)=true):PCall P 70 [x.c,y.c] (.lit (.int .i64 (z1y (z6x x y)))):=
 j3 (.r 4 ((z06 (x) s4_0).eqB h1) (.r 8 ((z06 (y) s8_0).eqB h2) (.r 14 (zoJ (x) (y) s14_0 s14_1) (.r 15 (z91 (z6x x y) s15_0) .nil)))) (by kernel_rfl)
theorem zn1(x y:RN)(h1:(x.ok)=true)(h2:(y.ok)=false)(s4_0:RN.raw 1000000 x=true)(s8_0:RN.raw 1000000 y=true):PCall P 70 [x.c,y.c] (.lit (.int .i64 0)):=
 j3 (.r 4 ((z06 (x) s4_0).eqB h1) (.r 8 ((z06 (y) s8_0).eqB h2) .nil)) (by kernel_rfl)
theorem zlx(x y:RN)(h1:(x.ok)=false)(s4_0:RN.raw 1000000 x=true):PCall P 70 [x.c,y.c] (.lit (.int .i64 0)):=
 j3 (.r 4 ((z06 (x) s4_0).eqB h1) .nil) (by kernel_rfl)
end Go.Fw
open Go
namespace Go.Fw
set_option maxRecDepth 100000
theorem zlO(x y:RN)(hx:x.raw 1000000=true)(hy:y.raw 1000000=true):PCall P 161 [x.c,y.c] (.tup [(z0G x y).1.c,j6 (z0G x y).2]):=by
 unfold z0G
 cases ex:toO x with
 |none=>exact zi0 x y (U5 ex) hx
 |some k=>
  cases ey:toO y with
  |none=>exact ziu x y (z0L ex).1 (U5 ey) hx hy
  |some l=>
   have a:=z0M ex hx
   have b:=z0M ey hy
   rw[z9s (z0L ex).2,z9s (z0L ey).2]
   dsimp only
   by_cases h0:K.sgn l=0
   · rw[if_pos h0]
     exact ziR k l (beq_iff_eq.2 h0) a b b
   · rw[if_neg h0]
     exact znI k l a b h0
theorem z8v:z1y .zero=0:=by unfold z1y;rw[z43]
theorem z9L{x y:RN}(h:x.ok=false∨y.ok=false):z6x x y= .zero:=by
 unfold z6x
 rcases h with h|h
 · rw[z7C h];rfl
 · rw[z7C h];cases toO x<;>rfl
theorem zoo(x y:RN)(hx:x.raw 100000=true)(hy:y.raw 100000=true):PCall P 70 [x.c,y.c] (j6 (zkM x y)):=by
 have x6:=RN.raw_mono hx (show 100000≤1000000 by decide)
 have y6:=RN.raw_mono hy (show 100000≤1000000 by decide)
 unfold zkM
 cases e1:x.ok
 · rw[z9L (.inl e1),z8v]
   exact zlx x y e1 x6
 · cases e2:y.ok
   · rw[z9L (.inr e2),z8v]
     exact zn1 x y e1 e2 x6 y6
   · exact zni x y e1 e2 x6 y6 x6 y6 (RN.raw_mono (zdu hx hy) (by decide))
end Go.Fw
open Go
namespace Go.Fw
set_option maxRecDepth 100000
theorem zit(v w:VN)(hv:v.raw 10000=true)(hw:w.raw 10000=true):PCall P 173 [v.c,w.c] (z7X v w).c:=by
 have hv':=VN.raw_mono hv (show 10000≤1000000 by decide)
 have hw':=VN.raw_mono hw (show 10000≤1000000 by decide)
 unfold z7X
 cases ev:toV v with
 |none=>exact zcr v w (z0o ev) hv'
 |some a=>
  cases ew:toV w with
  |none=>exact zcb v w (z5d ev) (z0o ew) hv' hw'
  |some b=>
   obtain⟨x,y,z⟩:=z0q ev hv
   obtain⟨x',y',z'⟩:=z0q ew hw
   have m1:=K.sz_mul a.x b.x
   have m2:=K.sz_mul a.y b.y
   have m3:=K.sz_mul a.z b.z
   have m4:=K.sz_add (a.x*b.x) (a.y*b.y)
   rw[z4S ev,z4S ew]
   exact zcI _ _ _ _ _ _ (by omega) (by omega) (by omega) (by omega) (by omega) (by omega) (by omega) (by omega) (by omega) (by omega) (by omega) (by omega) (by omega) (by omega) (by omega) (by omega)
end Go.Fw
open Go IntKind
namespace Go.Fw
set_option maxRecDepth 100000
theorem zkS(a b c:PN)(g1:a.ok=false)(s12_0:PN.raw 1000000 a=true):PCall P 174 [pl3 a b c] (.lit (.bool true)):=
 j3 (.c (bq 0 3) (.c (lq 40 40) (.r 12 ((z1N (a) s12_0).eqB g1) .nil))) (by kernel_rfl)
theorem zlv(a b c:PN)(g1:a.ok=true)(g2:b.ok=false)(s12_0:PN.raw 1000000 a=true)(s25_0:PN.raw 1000000 b=true):PCall P 174 [pl3 a b c] (.lit (.bool true)):=
 j3 (.c (bq 0 3) (.c (lq 40 40) (.r 12 ((z1N (a) s12_0).eqB g1) (.c (bq 1 3) (.c (lq 40 40) (.r 25 ((z1N (b) s25_0).eqB g2) .nil)))))) (by kernel_rfl)
theorem zmE(a b c:PN)(g1:a.ok=true)(g2:b.ok=true)(g3:c.ok=false)(s12_0:PN.raw 1000000 a=true)(s25_0:PN.raw 1000000 b=true)(s38_0:PN.raw 1000000 c=true):PCall P 174 [pl3 a b c] (.lit (.bool true)):=
 j3 (.c (bq 0 3) (.c (lq 40 40) (.r 12 ((z1N (a) s12_0).eqB g1) (.c (bq 1 3) (.c (lq 40 40) (.r 25 ((z1N (b) s25_0).eqB g2) (.c (bq 2 3) (.c (lq 40 40) (.r 38 ((z1N (c) s38_0).eqB g3) .nil))))))))) (by kernel_rfl)
end Go.Fw
open Go
namespace Go.Fw
set_option maxRecDepth 100000
theorem zlC(a b c:PN)(g:(a.ok&&(b.ok&&c.ok))=false)(h1:a.raw 1000000=true)(h2:b.raw 1000000=true)(h3:c.raw 1000000=true):PCall P 174 [pl3 a b c] (.lit (.bool true)):=by
 cases e1:a.ok
 · exact zkS a b c e1 h1
 · cases e2:b.ok
   · exact zlv a b c e1 e2 h1 h2
   · cases e3:c.ok
     · exact zmE a b c e1 e2 e3 h1 h2 h3
     · rw[e1,e2,e3]at g;cases g
end Go.Fw
open Go IntKind
namespace Go.Fw
set_option maxRecDepth 100000
theorem zmg(a b c:PN)(g1:(a.ok&&(b.ok&&c.ok))=false)(s9_0:PN.raw 1000000 a=true)(s9_1:PN.raw 1000000 b=true)(s9_2:PN.raw 1000000 c=true)(o1:(p3M a b c)=(p3M a b c)):PCall P 96 [a.c,b.c,c.c] (.tup [z0s,.lit (.int .i64 1)]):=
 j3 (.c (zlC (a) (b) (c) g1 s9_0 s9_1 s9_2) (.c o1 (.c (lq 30 30) (.o 9 (.k (.lit (.bool true)) [(p3L a b c)]) .nil)))) (by kernel_rfl)
theorem zlb(a b c:PN)(g1:a.ok=false)(s6_0:PN.raw 1000000 a=true):PCall P 97 [a.c,b.c,c.c] (.tup [z0s,.lit (.int .i64 1)]):=
 j3 (.r 6 ((z0B (a) s6_0).eqB g1) (.c (lq 30 30) .nil)) (by kernel_rfl)
theorem zkZ(a b c:PN)(g1:a.ok=true)(g2:b.ok=false)(s6_0:PN.raw 1000000 a=true)(s10_0:PN.raw 1000000 b=true):PCall P 97 [a.c,b.c,c.c] (.tup [z0s,.lit (.int .i64 1)]):=
 j3 (.r 6 ((z0B (a) s6_0).eqB g1) (.r 10 ((z0B (b) s10_0).eqB g2) (.c (lq 30 30) .nil))) (by kernel_rfl)
theorem zog(a b c:PN)(g1:a.ok=true)(g2:b.ok=true)(g3:c.ok=false)(s6_0:PN.raw 1000000 a=true)(s10_0:PN.raw 1000000 b=true)(s15_0:PN.raw 1000000 c=true):PCall P 97 [a.c,b.c,c.c] (.tup [z0s,.lit (.int .i64 1)]):=
 j3 (.r 6 ((z0B (a) s6_0).eqB g1) (.r 10 ((z0B (b) s10_0).eqB g2) (.r 15 ((z0B (c) s15_0).eqB g3) (.c (lq 30 30) .nil)))) (by kernel_rfl)
theorem zlG(a b c:PN)(g1:a.ok=true)(g2:b.ok=true)(g3:c.ok=true)(h1:(z1y (U1 a.n b.n c.n)==0)=true)(s6_0:PN.raw 1000000 a=true)(s10_0:PN.raw 1000000 b=true)(s15_0:PN.raw 1000000 c=true)(s25_0:a.n.ok=true)(s25_1:b.n.ok=true)(s25_2:c.n.ok=true)(s25_3:VN.raw 200 a.n=true)(s25_4:VN.raw 200 b.n=true)(s25_5:VN.raw 200 c.n=true)(s29_0:RN.raw 1000000 (U1 a.n b.n c.n)=true):PCall P 97 [a.c,b.c,c.c] (.tup [z0s,.lit (.int .i64 11)]):=
 j3 (.r 6 ((z0B (a) s6_0).eqB g1) (.r 10 ((z0B (b) s10_0).eqB g2) (.r 15 ((z0B (c) s15_0).eqB g3) (.r 25 (zgx (a.n) (b.n) (c.n) s25_0 s25_1 s25_2 s25_3 s25_4 s25_5) (.c (lq 10 10) (.r 29 (z91 (U1 a.n b.n c.n) s29_0) (.b 31 h1 (.c (lq 30 30) .nil)))))))) (by kernel_rfl)
theorem zlF(a b c:PN)(g1:a.ok=true)(g2:b.ok=true)(g3:c.ok=true)(h1:(z1y (U1 a.n b.n c.n)==0)=false)(s6_0:PN.raw 1000000 a=true)(s10_0:PN.raw 1000000 b=true)(s15_0:PN.raw 1000000 c=true)(s25_0:a.n.ok=true)(s25_1:b.n.ok=true)(s25_2:c.n.ok=true)(s25_3:VN.raw 200 a.n=true)(s25_4:VN.raw 200 b.n=true)(s25_5:VN.raw 200 c.n=true)(s29_0:RN.raw 1000000 (U1 a.n b.n c.n)=true)(s36_0:VN.raw 1000 b.n=true)(s36_1:VN.raw 1000 c.n=true)(s39_0:VN.raw 1000000 (J0 b.n c.n)=true)(s39_1:RN.raw 1000000 a.d=true)(s47_0:VN.raw 1000 c.n=true)(s47_1:VN.raw 1000 a.n=true)(s50_0:VN.raw 1000000 (J0 c.n a.n)=true)(s50_1:RN.raw 1000000 b.d=true)(s51_0:VN.raw 1000000 (J2 (J0 b.n c.n) a.d)=true)(s51_1:VN.raw 1000000 (J2 (J0 c.n a.n) b.d)=true)(s58_0:VN.raw 1000 a.n=true)(s58_1:VN.raw 1000 b.n=true)(s61_0:VN.raw 1000000 (J0 a.n b.n)=true)(s61_1:RN.raw 1000000 c.d=true)(s62_0:VN.raw 1000000 (z1b (J2 (J0 b.n c.n) a.d) (J2 (J0 c.n a.n) b.d))=true)(s62_1:VN.raw 1000000 (J2 (J0 a.n b.n) c.d)=true)(s64_0:(-9223372036854775808:Int)≤1∧(1:Int)≤9223372036854775807)(s66_0:RN.raw 1000000 (oN (1:Int))=true)(s66_1:RN.raw 1000000 (U1 a.n b.n c.n)=true)(s75_0:VN.raw 1000000 (z1b (z1b (J2 (J0 b.n c.n) a.d) (J2 (J0 c.n a.n) b.d)) (J2 (J0 a.n b.n) c.d))=true)(s75_1:RN.raw 1000000 (z0G (oN (1:Int)) (U1 a.n b.n c.n)).fst=true):PCall P 97 [a.c,b.c,c.c] (.tup [z71 (J2 (z1b (z1b (J2 (J0 b.n c.n) a.d) (J2 (J0 c.n a.n) b.d)) (J2 (J0 a.n b.n) c.d)) (z0G (oN (1:Int)) (U1 a.n b.n c.n)).fst).x (J2 (z1b (z1b (J2 (J0 b.n c.n) a.d) (J2 (J0 c.n a.n) b.d)) (J2 (J0 a.n b.n) c.d)) (z0G (oN (1:Int)) (U1 a.n b.n c.n)).fst).y (J2 (z1b (z1b (J2 (J0 b.n c.n) a.d) (J2 (J0 c.n a.n) b.d)) (J2 (J0 a.n b.n) c.d)) (z0G (oN (1:Int)) (U1 a.n b.n c.n)).fst).z,.lit (.int .i64 0)]):=
 j3 (.r 6 ((z0B (a) s6_0).eqB g1) (.r 10 ((z0B (b) s10_0).eqB g2) (.r 15 ((z0B (c) s15_0).eqB g3) (.r 25 (zgx (a.n) (b.n) (c.n) s25_0 s25_1 s25_2 s25_3 s25_4 s25_5) (.c (lq 10 10) (.r 29 (z91 (U1 a.n b.n c.n) s29_0) (.b 31 h1 (.r 36 (z49 (b.n) (c.n) s36_0 s36_1) (.r 39 (z3R (J0 b.n c.n) (a.d) s39_0 s39_1) (.c (lq 30 30) (.r 47 (z49 (c.n) (a.n) s47_0 s47_1) (.r 50 (z3R (J0 c.n a.n) (b.d) s50_0 s50_1) (.r 51 (zcS (J2 (J0 b.n c.n) a.d) (J2 (J0 c.n a.n) b.d) s51_0 s51_1) (.c (lq 30 30) (.r 58 (z49 (a.n) (b.n) s58_0 s58_1) (.r 61 (z3R (J0 a.n b.n) (c.d) s61_0 s61_1) (.r 62 (zcS (z1b (J2 (J0 b.n c.n) a.d) (J2 (J0 c.n a.n) b.d)) (J2 (J0 a.n b.n) c.d) s62_0 s62_1) (.c (lq 30 30) (.r 64 (zfp ((1:Int)) s64_0) (.r 66 (zlO (oN (1:Int)) (U1 a.n b.n c.n) s66_0 s66_1) (.c (lq 10 10) (.r 75 (z3R (z1b (z1b (J2 (J0 b.n c.n) a.d) (J2 (J0 c.n a.n) b.d)) (J2 (J0 a.n b.n) c.d)) ((z0G (oN (1:Int)) (U1 a.n b.n c.n)).fst) s75_0 s75_1) (.c (lq 30 30) .nil))))))))))))))))))))))) (by kernel_rfl)
theorem zmu(p:PN)(v:VN)(h1:(p.ok)=true)(h2:(v.ok)=true)(s4_0:PN.raw 1000000 p=true)(s8_0:VN.raw 1000000 v=true)(s15_0:VN.raw 10000 p.n=true)(s15_1:VN.raw 10000 v=true)(s18_0:RN.raw 100000 (z7X p.n v)=true)(s18_1:RN.raw 100000 p.d=true):PCall P 98 [p.c,v.c] (.lit (.int .i64 (zkM (z7X p.n v) p.d))):=
 j3 (.r 4 ((z0B (p) s4_0).eqB h1) (.r 8 ((z1Y (v) s8_0).eqB h2) (.r 15 (zit (p.n) (v) s15_0 s15_1) (.r 18 (zoo (z7X p.n v) (p.d) s18_0 s18_1) .nil)))) (by kernel_rfl)
theorem zp3(p:PN)(v:VN)(h1:(p.ok)=true)(h2:(v.ok)=false)(s4_0:PN.raw 1000000 p=true)(s8_0:VN.raw 1000000 v=true):PCall P 98 [p.c,v.c] (.lit (.int .i64 0)):=
 j3 (.r 4 ((z0B (p) s4_0).eqB h1) (.r 8 ((z1Y (v) s8_0).eqB h2) .nil)) (by kernel_rfl)
theorem zmj(p:PN)(v:VN)(h1:(p.ok)=false)(s4_0:PN.raw 1000000 p=true):PCall P 98 [p.c,v.c] (.lit (.int .i64 0)):=
 j3 (.r 4 ((z0B (p) s4_0).eqB h1) .nil) (by kernel_rfl)
theorem zny(p:PN)(v:VN)(h1:(p.ok)=true)(h2:(v.ok)=true)(s4_0:PN.raw 1000000 p=true)(s8_0:VN.raw 1000000 v=true)(s15_0:VN.raw 10000 p.n=true)(s15_1:VN.raw 10000 v=true)(s18_0:RN.raw 100000 (z7X p.n v)=true)(s18_1:RN.raw 100000 p.d=true):PCall P 93 [p.c,v.c] (.lit (.int .i64 (zkM (z7X p.n v) p.d))):=
 j3 (.r 4 ((z1N (p) s4_0).eqB h1) (.r 8 ((zaU (v) s8_0).eqB h2) (.r 15 (zgK (p.n) (v) s15_0 s15_1) (.r 18 (zln (z7X p.n v) (p.d) s18_0 s18_1) .nil)))) (by kernel_rfl)
theorem znC(p:PN)(v:VN)(h1:(p.ok)=true)(h2:(v.ok)=false)(s4_0:PN.raw 1000000 p=true)(s8_0:VN.raw 1000000 v=true):PCall P 93 [p.c,v.c] (.lit (.int .i64 0)):=
 j3 (.r 4 ((z1N (p) s4_0).eqB h1) (.r 8 ((zaU (v) s8_0).eqB h2) .nil)) (by kernel_rfl)
theorem zle(p:PN)(v:VN)(h1:(p.ok)=false)(s4_0:PN.raw 1000000 p=true):PCall P 93 [p.c,v.c] (.lit (.int .i64 0)):=
 j3 (.r 4 ((z1N (p) s4_0).eqB h1) .nil) (by kernel_rfl)
end Go.Fw
open Go
namespace Go.Fw
set_option maxRecDepth 100000
noncomputable def z0x(a b c:PN):VN×Int:=if(a.ok&&(b.ok&&c.ok))=true then z8X a b c else(.zero,1)
theorem zdN(p:PN)(v:VN)(hp:p.raw 10000=true)(hv:v.raw 10000=true):PCall P 93 [p.c,v.c] (j6 (z5h p v)):=by
 obtain⟨hn,hd⟩:=PN.raw_iff.1 hp
 have P1:=PN.raw_mono hp (show 10000≤1000000 by decide)
 have V1:=VN.raw_mono hv (show 10000≤1000000 by decide)
 unfold z5h
 cases e1:p.ok
 · exact zle p v e1 P1
 · cases e2:v.ok
   · exact znC p v e1 e2 P1 V1
   · exact zny p v e1 e2 P1 V1 hn hv (RN.raw_mono (z6r hn hv) (by decide)) (RN.raw_mono hd (by decide))
theorem zbJ(p:PN)(v:VN)(hp:p.raw 10000=true)(hv:v.raw 10000=true):PCall P 98 [p.c,v.c] (j6 (z5h p v)):=by
 obtain⟨hn,hd⟩:=PN.raw_iff.1 hp
 have P1:=PN.raw_mono hp (show 10000≤1000000 by decide)
 have V1:=VN.raw_mono hv (show 10000≤1000000 by decide)
 unfold z5h
 cases e1:p.ok
 · exact zmj p v e1 P1
 · cases e2:v.ok
   · exact zp3 p v e1 e2 P1 V1
   · exact zmu p v e1 e2 P1 V1 hn hv (RN.raw_mono (z6r hn hv) (by decide)) (RN.raw_mono hd (by decide))
theorem zi2(a b c:PN)(ha:a.raw 10=true)(hb:b.raw 10=true)(hc:c.raw 10=true):PCall P 96 [a.c,b.c,c.c] (.tup [(z0x a b c).1.c,j6 (z0x a b c).2]):=by
 have m6: ∀{x:PN},x.raw 10=true→x.raw 1000000=true:=fun h=>PN.raw_mono h (by decide)
 unfold z0x
 cases e:(a.ok&&(b.ok&&c.ok))
 · exact zmg a b c e (m6 ha) (m6 hb) (m6 hc) rfl
 · rw[if_pos rfl]
   simp only[Bool.and_eq_true]at e
   exact zld a b c e.1 e.2.1 e.2.2 ha hb hc
end Go.Fw
open Go
namespace Go.Fw
set_option maxRecDepth 100000
theorem zhI(a b c:PN)(ha:a.raw 10=true)(hb:b.raw 10=true)(hc:c.raw 10=true):PCall P 97 [a.c,b.c,c.c] (.tup [(z0x a b c).1.c,j6 (z0x a b c).2]):=by
 obtain⟨r1,r2⟩:=z5H ha hb hc
 obtain⟨na,da⟩:=PN.raw_iff.1 ha
 obtain⟨nb,db⟩:=PN.raw_iff.1 hb
 obtain⟨nc,dc⟩:=PN.raw_iff.1 hc
 have m6: ∀{x:PN},x.raw 10=true→x.raw 1000000=true:=fun h=>PN.raw_mono h (by decide)
 have v3: ∀{x:VN},x.raw 10=true→x.raw 1000=true:=fun h=>VN.raw_mono h (by decide)
 have v2: ∀{x:VN},x.raw 10=true→x.raw 200=true:=fun h=>VN.raw_mono h (by decide)
 have k6: ∀{x:RN},x.raw 10=true→x.raw 1000000=true:=fun h=>RN.raw_mono h (by decide)
 have cr: ∀{x y:VN},x.raw 10=true→y.raw 10=true→(J0 x y).raw 43=true:=fun h k=>z27 (n:=10) h k
 have cr6: ∀{x y:VN},x.raw 10=true→y.raw 10=true→(J0 x y).raw 1000000=true:=fun h k=>VN.raw_mono (cr h k) (by decide)
 have sc: ∀{x:VN} {k:RN},x.raw 43=true→k.raw 10=true→(J2 x k).raw 87=true:=fun h k=>z3a (n:=43) h (RN.raw_mono k (by decide))
 have sc6: ∀{x:VN} {k:RN},x.raw 43=true→k.raw 10=true→(J2 x k).raw 1000000=true:=fun h k=>VN.raw_mono (sc h k) (by decide)
 have d6:(U1 a.n b.n c.n).raw 1000000=true:=RN.raw_mono r2 (by decide)
 unfold z0x
 cases g1:a.ok
 · exact zlb a b c g1 (m6 ha)
 · cases g2:b.ok
   · exact zkZ a b c g1 g2 (m6 ha) (m6 hb)
   · cases g3:c.ok
     · exact zog a b c g1 g2 g3 (m6 ha) (m6 hb) (m6 hc)
     · rw[Bool.and_true,Bool.and_true,if_pos rfl]
       have o1:=(z7i (n:=a.n) (d:=a.d) g1).1
       have o2:=(z7i (n:=b.n) (d:=b.d) g2).1
       have o3:=(z7i (n:=c.n) (d:=c.d) g3).1
       unfold z8X
       by_cases h:z1y (U1 a.n b.n c.n)=0
       · rw[if_pos h]
         exact zlG a b c g1 g2 g3 (beq_iff_eq.2 h) (m6 ha) (m6 hb) (m6 hc) o1 o2 o3 (v2 na) (v2 nb) (v2 nc) d6
       · rw[if_neg h]
         exact zlF a b c g1 g2 g3 (beq_false_of_ne h) (m6 ha) (m6 hb) (m6 hc) o1 o2 o3 (v2 na) (v2 nb) (v2 nc) d6 (v3 nb) (v3 nc) (cr6 nb nc) (k6 da) (v3 nc) (v3 na) (cr6 nc na) (k6 db) (sc6 (cr nb nc) da) (sc6 (cr nc na) db) (v3 na) (v3 nb) (cr6 na nb) (k6 dc)
          (VN.raw_mono (z5o (sc (cr nb nc) da) (sc (cr nc na) db)) (by decide)) (sc6 (cr na nb) dc) (by decide) (RN.raw_mono z3p (by decide)) d6 (VN.raw_mono r1 (by decide)) (RN.raw_mono (z7b (RN.raw_mono z3p (by decide)) r2) (by decide))
end Go.Fw
open Go IntKind
namespace Go.Fw
set_option maxRecDepth 100000
theorem zke(a b c:PN)(g1:PN.raw 10 a=false):PCall P 73 [pl3 a b c] (.lit (.bool false)):=
 j3 (.c (bq 0 3) (.c (lq 40 40) (.r 12 ((z46 (a)).eqB g1) .nil))) (by kernel_rfl)
theorem zhn(a b c:PN)(g1:PN.raw 10 a=true)(g2:PN.raw 10 b=false):PCall P 73 [pl3 a b c] (.lit (.bool false)):=
 j3 (.c (bq 0 3) (.c (lq 40 40) (.r 12 ((z46 (a)).eqB g1) (.c (bq 1 3) (.c (lq 40 40) (.r 25 ((z46 (b)).eqB g2) .nil)))))) (by kernel_rfl)
theorem zkF(a b c:PN)(g1:PN.raw 10 a=true)(g2:PN.raw 10 b=true)(h1:(PN.raw 10 c)=true):PCall P 73 [pl3 a b c] (.lit (.bool true)):=
 j3 (.c (bq 0 3) (.c (lq 40 40) (.r 12 ((z46 (a)).eqB g1) (.c (bq 1 3) (.c (lq 40 40) (.r 25 ((z46 (b)).eqB g2) (.c (bq 2 3) (.c (lq 40 40) (.r 38 ((z46 (c)).eqB h1) .nil))))))))) (by kernel_rfl)
theorem zhD(a b c:PN)(g1:PN.raw 10 a=true)(g2:PN.raw 10 b=true)(h1:(PN.raw 10 c)=false):PCall P 73 [pl3 a b c] (.lit (.bool false)):=
 j3 (.c (bq 0 3) (.c (lq 40 40) (.r 12 ((z46 (a)).eqB g1) (.c (bq 1 3) (.c (lq 40 40) (.r 25 ((z46 (b)).eqB g2) (.c (bq 2 3) (.c (lq 40 40) (.r 38 ((z46 (c)).eqB h1) .nil))))))))) (by kernel_rfl)
end Go.Fw
open Go
namespace Go.Fw
set_option maxRecDepth 100000
theorem zqd(a b c:PN):PCall P 73 [pl3 a b c] (.lit (.bool (a.raw 10&&(b.raw 10&&c.raw 10)))):=by
 cases g1:a.raw 10
 · exact zke a b c g1
 · cases g2:b.raw 10
   · exact zhn a b c g1 g2
   · cases g3:c.raw 10
     · exact zhD a b c g1 g2 g3
     · exact zkF a b c g1 g2 g3
end Go.Fw
open Go IntKind
namespace Go.Fw
set_option maxRecDepth 100000
theorem zj9(a b c:PN)(g:(PN.raw 10 a&&(PN.raw 10 b&&PN.raw 10 c))=false)(o2:(p3M a b c)=(p3M a b c)):PCall P 20 [a.c,b.c,c.c] (.lit (.bool true)):=
 j3 (.c (zgL) (.c ((zqd (a) (b) (c)).eqB g) (.c o2 (.o 4 (.r (.lit (.bool true))) (.o 11 (.k (.lit (.bool false)) [(p3L a b c)]) .nil))))) (by kernel_rfl)
theorem zmN(a b c:PN)(g:(PN.raw 10 a&&(PN.raw 10 b&&PN.raw 10 c))=true)(q0:(rnB (z0x a b c).fst.x (z0x a b c).fst.x&&(rnB (z0x a b c).fst.y (z0x a b c).fst.y&&(rnB (z0x a b c).fst.z (z0x a b c).fst.z&&true)))=true)(q1:((z0x a b c).snd==(z0x a b c).snd)=true)(q2:(z5h a b.n==z5h a b.n)=true)(s17_0:PN.raw 10 a=true)(s17_1:PN.raw 10 b=true)(s17_2:PN.raw 10 c=true)(s27_0:PN.raw 10 a=true)(s27_1:PN.raw 10 b=true)(s27_2:PN.raw 10 c=true)(s46_0:PN.raw 10000 a=true)(s46_1:VN.raw 10000 b.n=true)(s50_0:PN.raw 10000 a=true)(s50_1:VN.raw 10000 b.n=true)(s56_0:PN.raw 10000 c=true)(s56_1:VN.raw 10000 (z0x a b c).fst=true)(s59_0:PN.raw 10000 c=true)(s59_1:VN.raw 10000 (z0x a b c).fst=true)(o2:(p3M a b c)=(p3M a b c)):PCall P 20 [a.c,b.c,c.c] (.lit (.bool (z5h c (z0x a b c).fst==z5h c (z0x a b c).fst))):=
 j3 (.c (zgL) (.c ((zqd (a) (b) (c)).eqB g) (.c o2 (.c (zi2 (a) (b) (c) s17_0 s17_1 s17_2) (.c (lq 30 30) (.c (zhI (a) (b) (c) s27_0 s27_1 s27_2) (.c (lq 30 30) (.c q0 (.c q1 (.c (zdN (a) (b.n) s46_0 s46_1) (.c (zbJ (a) (b.n) s50_0 s50_1) (.c q2 (.c (zdN (c) ((z0x a b c).fst) s56_0 s56_1) (.c (zbJ (c) ((z0x a b c).fst) s59_0 s59_1) (.o 4 (.r (.lit (.bool true))) (.o 11 (.k (.lit (.bool true)) [(p3L a b c)]) (.o 17 (.r (.tup [z71 (z0x a b c).fst.x (z0x a b c).fst.y (z0x a b c).fst.z,.lit (.int .i64 (z0x a b c).2)])) (.o 27 (.r (.tup [z71 (z0x a b c).fst.x (z0x a b c).fst.y (z0x a b c).fst.z,.lit (.int .i64 (z0x a b c).2)])) (.o 37 (.b true) (.o 42 (.b true) (.o 46 (.r (.lit (.int .i64 (z5h a b.n)))) (.o 50 (.r (.lit (.int .i64 (z5h a b.n)))) (.o 53 (.b true) (.o 56 (.r (.lit (.int .i64 (z5h c (z0x a b c).fst)))) (.o 59 (.r (.lit (.int .i64 (z5h c (z0x a b c).fst)))) .nil))))))))))))))))))))))))) (by kernel_rfl)
end Go.Fw
open Go
namespace Go.Fw
set_option maxRecDepth 100000
theorem z95{x k:K}(hk:K.sgn k=1):K.sgn (x*k)=K.sgn x:=by rw[K.sgn_mul,hk,Int.mul_one]
theorem z8c{x k:K}(h:x≠0)(hk:K.sgn k=1):x*k≠0:=fun e=>h (K.sgn_zero.1 (by rw[←z95 hk,e];exact K.sgn_zero.2 rfl))
end Go.Fw
open Go
namespace Go.Fw
set_option maxRecDepth 100000
theorem znN{x:VN}{k:RN}(h:x.raw 400=true)(g:k.raw 4000=true):(J2 x k).raw 10000=true:=by
 have h4:x.raw 4000=true:=VN.raw_mono h (by decide)
 have:=z3a h4 g
 exact VN.raw_mono this (by decide)
theorem zpP{y:RN}(h:y.raw 400=true):(z0G (oN 1) y).1.raw 4000=true:=by
 have h1:(oN 1).raw 400=true:=RN.raw_mono z3p (by decide)
 have:=z7b h1 h
 exact RN.raw_mono this (by decide)
theorem zfi{a b c:PN}(ha:a.raw 10=true)(hb:b.raw 10=true)(hc:c.raw 10=true):(z8X a b c).1.raw 10000=true:=by
 obtain⟨r1,r2⟩:=z5H ha hb hc
 have k:=znN r1 (zpP r2)
 unfold z8X
 generalize J2 (ziJ a b c) (z0G (oN 1) (U1 a.n b.n c.n)).1=x at*
 generalize z1y (U1 a.n b.n c.n)=t at*
 by_cases h:t=0
 · rw[if_pos h];exact z3z (o:=none) (Nat.zero_le _)
 · rw[if_neg h];exact k
theorem z7D{x:K}(h:x=0):K.sgn x=0:=K.sgn_zero.2 h
end Go.Fw
open Go
namespace Go.Fw
set_option maxRecDepth 100000
theorem zdQ(a b c:PN):PCall P 20 [a.c,b.c,c.c] (.lit (.bool true)):=by
 cases g:(a.raw 10&&(b.raw 10&&c.raw 10))
 · exact zj9 a b c g rfl
 · have g':=g
   simp only[Bool.and_eq_true]at g'
   obtain⟨ha,hb,hc⟩:=g'
   have m4: ∀{x:PN},x.raw 10=true→x.raw 10000=true:=fun h=>PN.raw_mono h (by decide)
   have nb:b.n.raw 10000=true:=VN.raw_mono (PN.raw_iff.1 hb).1 (by decide)
   have rm:(z0x a b c).1.raw 10000=true:=by
    have k:=zfi ha hb hc
    unfold z0x
    generalize z8X a b c=x at*
    cases(a.ok&&(b.ok&&c.ok))
    · exact z3z (o:=none) (Nat.zero_le _)
    · exact k
   refine(zmN a b c g ?_ (beq_self_eq_true _) (beq_self_eq_true _) ha hb hc ha hb hc (m4 ha) nb (m4 ha) nb (m4 hc) rm (m4 hc) rm rfl).eqB (beq_self_eq_true _)
   rw[z2m.2 rfl,z2m.2 rfl,z2m.2 rfl];rfl
end Go.Fw
open Go Go.Proofs Go.Proofs.YtcafjpldfnegiaaGreatDoor
namespace Go.Fw
set_option maxRecDepth 100000
def RN.v(x:RN):List Value:=[.bool x.b0,.string x.s0,.bool x.b1,.string x.s1,.bool x.b2,.string x.s2,.bool x.b3,.string x.s3,.bool x.b4,.string x.s4]
abbrev zqs:List CT:=[.b,.s,.b,.s,.b,.s,.b,.s,.b,.s]
abbrev zpw:List CT:=[.b,.s,.b,.s,.b,.s,.b,.s,.b,.s,.b,.s,.b,.s,.b,.s,.b,.s,.b,.s,.b,.s,.b,.s,.b,.s,.b,.s,.b,.s]
theorem z5r{ts:List CT}{l:List Value}(h:CTs (.b:: .s:: .b:: .s:: .b:: .s:: .b:: .s:: .b:: .s::ts) l): ∃(x:RN) (m:List Value),l=x.v++m∧CTs ts m:=by
 simp only[CTs,CT.ok]at h
 obtain⟨_,_,rfl,⟨b0,rfl⟩,_,_,rfl,⟨s0,rfl⟩,_,_,rfl,⟨b1,rfl⟩,_,_,rfl,⟨s1,rfl⟩,_,_,rfl,⟨b2,rfl⟩,_,_,rfl,⟨s2,rfl⟩,_,_,rfl,⟨b3,rfl⟩,_,_,rfl,⟨s3,rfl⟩,_,_,rfl,⟨b4,rfl⟩,_,m,rfl,⟨s4,rfl⟩,hm⟩:=h
 exact⟨⟨b0,s0,b1,s1,b2,s2,b3,s3,b4,s4⟩,m,rfl,hm⟩
theorem zfb{ts:List CT}{l:List Value}(h:CTs (zpw++ts) l): ∃(x y z:RN) (m:List Value),l=x.v++(y.v++(z.v++m))∧CTs ts m:=by
 obtain⟨x,m1,rfl,h1⟩:=z5r h
 obtain⟨y,m2,rfl,h2⟩:=z5r h1
 obtain⟨z,m3,rfl,h3⟩:=z5r h2
 exact⟨x,y,z,m3,rfl,h3⟩
end Go.Fw
open Go Go.Proofs Go.Proofs.YtcafjpldfnegiaaGreatDoor
namespace Go.Fw
set_option maxRecDepth 100000
theorem zbS:z5L Tryz.prog 8 99=some (zpw++zqs):=by kernel_rfl
theorem z4J{l:List Value}(h:CTs (zpw++zqs) l): ∃x y z d:RN,l=x.v++(y.v++(z.v++d.v)):=by
 obtain⟨x,y,z,m,rfl,hm⟩:=zfb h
 obtain⟨d,m',rfl,hm'⟩:=z5r (ts:=[]) hm
 obtain rfl:m'=[]:=hm'
 exact⟨x,y,z,d,by simp⟩
theorem z6s(I:Imm)(x y z d:RN):CV.rep I (plR x y z d) (.agg (x.v++(y.v++(z.v++d.v))).toArray):=zhW I (x.v++(y.v++(z.v++d.v)))
end Go.Fw
open Go
namespace Go.Fw
set_option maxRecDepth 100000
theorem zg4(x y z d x' y' z' d' x'' y'' z'' d'':RN):PCall P 20 [plR x y z d,plR x' y' z' d',plR x'' y'' z'' d''] (.lit (.bool true)):=
 zdQ ⟨⟨x,y,z⟩,d⟩ ⟨⟨x',y',z'⟩,d'⟩ ⟨⟨x'',y'',z''⟩,d''⟩
end Go.Fw
open Go Go.Proofs Go.Proofs.YtcafjpldfnegiaaGreatDoor
namespace Go.Fw
open Go.ChangeShapes Go.WideShapes Go.ChangeAt Go.RowKit
set_option maxRecDepth 100000
theorem zbC {H : Type} {enc : TypeId × Value → H} (W : World) (base : Nat) (args : Array Value) (ds gs : List (DataW H)) (before : List MemPlace)
    (hval: ∀(j:Nat) t v,Tryz.f20.params[j]?=some t→args[j]?=some v→Value.okWide Tryz.prog W .any base t v)
    (hW:DataW.Whole enc Tryz.prog Tryz.f20.params.toList Rows.planeMeetSpec.vars false W args.toList ds gs before):
    Calls Tryz.prog 20 args W fun e W'=>e= .returned (.bool true)∧Below W.heap.size W W':=by
 obtain⟨p,q,hA,hV,_,_,_⟩:=hW
 rw[Tryz.params20]at hA hval
 obtain⟨v0,vs0,d0,ds0,p0,q0,ha0,hd0,_,h0,r0⟩:=trodAll_cons hA
 obtain⟨v1,vs1,d1,ds1,p1,q1,ha1,hd1,_,h1,r1⟩:=trodAll_cons r0
 obtain⟨v2,vs2,d2,ds2,p2,q2,ha2,hd2,_,h2,r2⟩:=trodAll_cons r1
 obtain⟨hz,hzd,_⟩:=trodAll_nil r2
 subst hz ha2 ha1
 obtain rfl:args= #[v0,v1,v2]:=by cases args;simp_all
 obtain⟨cs0,rfl,hc0⟩:=z6l 8 zbS (by kernel_rfl) (hval 0 99 v0 rfl rfl) h0
 obtain⟨x0,y0,z0,d0,rfl⟩:=z4J hc0
 obtain⟨cs1,rfl,hc1⟩:=z6l 8 zbS (by kernel_rfl) (hval 1 99 v1 rfl rfl) h1
 obtain⟨x1,y1,z1,d1,rfl⟩:=z4J hc1
 obtain⟨cs2,rfl,hc2⟩:=z6l 8 zbS (by kernel_rfl) (hval 2 99 v2 rfl rfl) h2
 obtain⟨x2,y2,z2,d2,rfl⟩:=z4J hc2
 exact zfT (zg4 x0 y0 z0 d0 x1 y1 z1 d1 x2 y2 z2 d2) ⟨_,_,rfl,z6s _ _ _ _ _,⟨_,_,rfl,z6s _ _ _ _ _,⟨_,_,rfl,z6s _ _ _ _ _,rfl⟩⟩⟩
end Go.Fw
