/- A part of the proof that the law returns true for every input: an executor for the model's code, and what functions of the program compute. -/
import Derived.Test.YtcafjpldfnegiaaGreatDoorB11
import Derived.Test.YtcafjpldfnegiaaGreatDoorB15
import Derived.Test.YtcafjpldfnegiaaGreatDoorB36
import Derived.Test.YtcafjpldfnegiaaGreatDoorB38
import Derived.Test.YtcafjpldfnegiaaGreatDoorB39
import Derived.Test.YtcafjpldfnegiaaGreatDoorB40
import Derived.Test.YtcafjpldfnegiaaGreatDoorB41
import Derived.Test.YtcafjpldfnegiaaGreatDoorB42
import Derived.Test.YtcafjpldfnegiaaGreatDoorB44
import Derived.KernelRfl
open Go IntKind
namespace Go.Fw
set_option maxRecDepth 100000
theorem zie(a b:Int)(h1:(a.sign==b.sign)=true):PCall P 151 [J6 a,J6 b] (.lit (.int .i64 a.sign)):=
 j4 (.r 4 (Q9 (a)) (.r 6 (Q9 (b)) (.b 12 h1 .nil))) (by kernel_rfl)
theorem zkw(a b:Int)(h1:(a.sign==b.sign)=false)(h2:(b.sign==0)=true):PCall P 151 [J6 a,J6 b] (.lit (.int .i64 a.sign)):=
 j4 (.r 4 (Q9 (a)) (.r 6 (Q9 (b)) (.b 12 h1 (.b 16 h2 .nil)))) (by kernel_rfl)
theorem ziL(a b:Int)(h1:(a.sign==b.sign)=false)(h2:(b.sign==0)=false)(h3:(a.sign==0)=true):PCall P 151 [J6 a,J6 b] (.lit (.int .i64 b.sign)):=
 j4 (.r 4 (Q9 (a)) (.r 6 (Q9 (b)) (.b 12 h1 (.b 16 h2 (.b 19 h3 .nil))))) (by kernel_rfl)
theorem ziw(a b:Int)(h1:(a.sign==b.sign)=false)(h2:(b.sign==0)=false)(h3:(a.sign==0)=false)(s23_0:Two a a)(s24_0:(-9223372036854775808:Int)≤2∧(2:Int)≤9223372036854775807)(s27_0:Two b b)(s28_0:Two (2:Int) (b*b))(s29_0:Two (a*a) ((2:Int)*(b*b))):PCall P 151 [J6 a,J6 b] (.lit (.int .i64 (i64.wrap (a.sign*(a*a-2*(b*b)).sign)))):=
 j4 (.r 4 (Q9 (a)) (.r 6 (Q9 (b)) (.b 12 h1 (.b 16 h2 (.b 19 h3 (.r 23 (zcU (a) (a) s23_0) (.r 24 (X9 ((2:Int)) s24_0) (.r 27 (zcU (b) (b) s27_0) (.r 28 (z8T (2) (b*b) s28_0) (.r 29 (zow (a*a) ((2:Int)*(b*b)) s29_0) .nil)))))))))) (by kernel_rfl)
theorem zhN(a b:Int)(s15_0:Two a (-b)):PCall P 152 [J6 a,J6 b] (.agg [.lit (.bool (decide (a+ -b<0))),.lit (.string (bytesOf (a+ -b).natAbs))]):=
 j4 (.r 4 (J4 (a)) (.r 8 (J4 (b)) (.r 14 (z8N (b)) (.r 15 (zpq (a) (-b) s15_0) (.c (lq 2 2) .nil))))) (by kernel_rfl)
end Go.Fw
open Go
namespace Go.Fw
set_option maxRecDepth 100000
theorem z3V(a b:Int)(h:z56 a b):PCall P 151 [J6 a,J6 b] (j6 (sg2 a b)):=by
 obtain⟨n,hn,ha,hb⟩:=h
 unfold sg2 z52
 by_cases h1:a.sign=b.sign
 · rw[if_pos (.inl h1)]
   exact zie a b (by simp[h1])
 · by_cases h2:b.sign=0
   · rw[if_pos (.inr h2)]
     exact zkw a b (beq_false_of_ne h1) (by simp[h2])
   · rw[if_neg (by rintro(h|h)<;>contradiction)]
     by_cases h3:a.sign=0
     · rw[if_pos h3]
       exact ziL a b (beq_false_of_ne h1) (beq_false_of_ne h2) (by simp[h3])
     · rw[if_neg h3]
       have:=ziw a b (beq_false_of_ne h1) (beq_false_of_ne h2) (beq_false_of_ne h3) ⟨n,by omega,ha,ha⟩ (by decide) ⟨n,by omega,hb,hb⟩ ⟨n+n+1,by omega,(show By 1 2 by unfold By;decide).mono (by omega),(hb.mul hb).mono (by omega)⟩ ⟨n+n+1,by omega,(ha.mul ha).mono (by omega),(hb.mul hb).two⟩
       have s1:=z3z a
       have s2:=z3z (a*a-2*(b*b))
       have hw:IntKind.i64.wrap (a.sign*(a*a-2*(b*b)).sign)=a.sign*(a*a-2*(b*b)).sign:=by
        generalize (a*a-2*(b*b)).sign=t at*
        have:a.sign= -1∨a.sign=1:=by omega
        rcases this with h|h<;>rw[h]<;>exact w64 (by omega)
       rw[hw]at this
       exact this
theorem zhm(a b:Int)(h:Two a b):PCall P 152 [J6 a,J6 b] (J6 (a-b)):=by
 obtain⟨n,hn,ha,hb⟩:=h
 have:=zhN a b ⟨n,hn,ha,hb.neg⟩
 rw[←Int.sub_eq_add_neg]at this
 exact this
theorem zam(a b:Int)(h:Two a b):PCall P 130 [c4C a b 0 0,c4C a b 0 0] (c4C (a*a+2*(b*b)) (2*(a*b)) 0 0):=by
 obtain⟨n,hn,ha,hb⟩:=h
 have z:By n 0:=by unfold By;exact Nat.pow_pos (by decide)
 have:=z72 a b 0 0 a b 0 0 ⟨n,hn,⟨ha,hb,z,z⟩,ha,hb,z,z⟩
 rw[show a*a+2*b*b+3*0*0+6*0*0=a*a+2*(b*b) by grind,show a*b+b*a+3*0*0+3*0*0=2*(a*b) by grind,show a*0+0*a+2*b*0+2*0*b=0 by grind,show a*0+0*a+b*0+0*b=0 by grind]at this
 exact this
end Go.Fw
open Go IntKind
namespace Go.Fw
set_option maxRecDepth 100000
theorem zma(x:K)(h1:(sg2 x.c0 x.c1==sg2 x.c2 x.c3)=true)(s3_0:x.sz≤1000000)(s12_0:z56 x.c0 x.c1)(s19_0:z56 x.c2 x.c3):PCall P 71 [Y6 x] (.lit (.int .i64 (sg2 x.c0 x.c1))):=
 j4 (.r 3 (z1H (x) s3_0) (.c (bq 0 4) (.c (bq 1 4) (.r 12 (z3V (x.c0) (x.c1) s12_0) (.c (bq 2 4) (.c (bq 3 4) (.r 19 (z3V (x.c2) (x.c3) s19_0) (.b 25 h1 .nil)))))))) (by kernel_rfl)
theorem zoV(x:K)(h1:(sg2 x.c0 x.c1==sg2 x.c2 x.c3)=false)(h2:(sg2 x.c2 x.c3==0)=true)(s3_0:x.sz≤1000000)(s12_0:z56 x.c0 x.c1)(s19_0:z56 x.c2 x.c3):PCall P 71 [Y6 x] (.lit (.int .i64 (sg2 x.c0 x.c1))):=
 j4 (.r 3 (z1H (x) s3_0) (.c (bq 0 4) (.c (bq 1 4) (.r 12 (z3V (x.c0) (x.c1) s12_0) (.c (bq 2 4) (.c (bq 3 4) (.r 19 (z3V (x.c2) (x.c3) s19_0) (.b 25 h1 (.b 29 h2 .nil))))))))) (by kernel_rfl)
theorem zmR(x:K)(h1:(sg2 x.c0 x.c1==sg2 x.c2 x.c3)=false)(h2:(sg2 x.c2 x.c3==0)=false)(h3:(sg2 x.c0 x.c1==0)=true)(s3_0:x.sz≤1000000)(s12_0:z56 x.c0 x.c1)(s19_0:z56 x.c2 x.c3):PCall P 71 [Y6 x] (.lit (.int .i64 (sg2 x.c2 x.c3))):=
 j4 (.r 3 (z1H (x) s3_0) (.c (bq 0 4) (.c (bq 1 4) (.r 12 (z3V (x.c0) (x.c1) s12_0) (.c (bq 2 4) (.c (bq 3 4) (.r 19 (z3V (x.c2) (x.c3) s19_0) (.b 25 h1 (.b 29 h2 (.b 32 h3 .nil)))))))))) (by kernel_rfl)
theorem zpj(x:K)(h1:(sg2 x.c0 x.c1==sg2 x.c2 x.c3)=false)(h2:(sg2 x.c2 x.c3==0)=false)(h3:(sg2 x.c0 x.c1==0)=false)(s3_0:x.sz≤1000000)(s12_0:z56 x.c0 x.c1)(s19_0:z56 x.c2 x.c3)(s47_0:Two x.c0 x.c1)(s64_0:Two x.c2 x.c3)(s67_0:(-9223372036854775808:Int)≤3∧(3:Int)≤9223372036854775807)(s76_0:Two (3:Int) (x.c2*x.c2+2*(x.c3*x.c3)))(s77_0:Two (x.c0*x.c0+2*(x.c1*x.c1)) ((3:Int)*(x.c2*x.c2+2*(x.c3*x.c3))))(s83_0:Two (3:Int) ((2:Int)*(x.c2*x.c3)))(s84_0:Two ((2:Int)*(x.c0*x.c1)) ((3:Int)*((2:Int)*(x.c2*x.c3))))(s85_0:z56 (x.c0*x.c0+2*(x.c1*x.c1)-3*(x.c2*x.c2+2*(x.c3*x.c3))) ((2:Int)*(x.c0*x.c1)-3*((2:Int)*(x.c2*x.c3)))):PCall P 71 [Y6 x] (.lit (.int .i64 (i64.wrap (sg2 x.c0 x.c1*sg2 (x.c0*x.c0+2*(x.c1*x.c1)-3*(x.c2*x.c2+2*(x.c3*x.c3))) ((2:Int)*(x.c0*x.c1)-3*((2:Int)*(x.c2*x.c3))))))):=
 j4 (.r 3 (z1H (x) s3_0) (.c (bq 0 4) (.c (bq 1 4) (.r 12 (z3V (x.c0) (x.c1) s12_0) (.c (bq 2 4) (.c (bq 3 4) (.r 19 (z3V (x.c2) (x.c3) s19_0) (.b 25 h1 (.b 29 h2 (.b 32 h3 (.c (bq 0 4) (.c (bq 1 4) (.c (bq 0 4) (.c (bq 1 4) (.r 47 (zam (x.c0) (x.c1) s47_0) (.c (lq 8 8) (.c (bq 2 4) (.c (bq 3 4) (.c (bq 2 4) (.c (bq 3 4) (.r 64 (zam (x.c2) (x.c3) s64_0) (.c (lq 8 8) (.r 67 (X9 ((3:Int)) s67_0) (.c (lq 2 2) (.c (bq 0 4) (.c (bq 0 4) (.r 76 (z8T (3) (x.c2*x.c2+2*(x.c3*x.c3)) s76_0) (.r 77 (zhm (x.c0*x.c0+2*(x.c1*x.c1)) ((3:Int)*(x.c2*x.c2+2*(x.c3*x.c3))) s77_0) (.c (bq 1 4) (.c (bq 1 4) (.r 83 (z8T (3) ((2:Int)*(x.c2*x.c3)) s83_0) (.r 84 (zhm ((2:Int)*(x.c0*x.c1)) ((3:Int)*((2:Int)*(x.c2*x.c3))) s84_0) (.r 85 (z3V (x.c0*x.c0+2*(x.c1*x.c1)-3*(x.c2*x.c2+2*(x.c3*x.c3))) ((2:Int)*(x.c0*x.c1)-3*((2:Int)*(x.c2*x.c3))) s85_0) .nil))))))))))))))))))))))))))))))))) (by kernel_rfl)
theorem zjp(x:RN)(g:x.ok=false)(s3_0:RN.raw 1000000 x=true):PCall P 71 [x.c] (.lit (.int .i64 0)):=
 j4 (.r 3 ((z1B (x) s3_0).eqB g) .nil) (by kernel_rfl)
end Go.Fw
open Go
namespace Go.Fw
set_option maxRecDepth 100000
theorem zl0(x:K)(hx:x.sz≤1000000):PCall P 71 [Y6 x] (j6 (K.sgn x)):=by
 obtain⟨x0,x1,x2,x3,_⟩:=By.of_sz hx
 have t01:z56 x.c0 x.c1:=⟨_,by decide,x0,x1⟩
 have t23:z56 x.c2 x.c3:=⟨_,by decide,x2,x3⟩
 have b1:=zap x.c0 x.c1
 rw[←zbS]
 unfold zpP
 by_cases h1:sg2 x.c0 x.c1=sg2 x.c2 x.c3
 · rw[z2U (c':=0) (.inl h1)]
   unfold z52
   rw[if_pos (.inl h1)]
   exact zma x (by simp[h1]) hx t01 t23
 · by_cases h2:sg2 x.c2 x.c3=0
   · unfold z52
     rw[if_pos (.inr h2)]
     exact zoV x (beq_false_of_ne h1) (by simp[h2]) hx t01 t23
   · by_cases h3:sg2 x.c0 x.c1=0
     · unfold z52
       rw[if_neg (fun h=>h.elim h1 h2),if_pos h3]
       exact zmR x (beq_false_of_ne h1) (beq_false_of_ne h2) (by simp[h3]) hx t01 t23
     · unfold z52
       rw[if_neg (fun h=>h.elim h1 h2),if_neg h3]
       obtain⟨N,hN,e⟩: ∃N,N=1000000∧x.sz≤N:=⟨_,rfl,hx⟩
       obtain⟨y0,y1,y2,y3,_⟩:=By.of_sz e
       have k3: ∀{n:Nat},1≤n→By n 3:=fun h=>(show By 1 3 by unfold By;decide).mono h
       have u1:=((y0.mul y0).mono (Nat.le_succ _)).add (y1.mul y1).two
       have u2:=((y2.mul y2).mono (Nat.le_succ _)).add (y3.mul y3).two
       have u3:=u2.k (k:=3) (by decide)
       have v1:=(y0.mul y1).two
       have v2:=(y2.mul y3).two
       have v3:=v2.k (k:=3) (by decide)
       have w1:=(u1.mono (Nat.le_succ _)).sub u3
       have w2:=(v1.mono (Nat.le_succ _)).sub v3
       have h:=zpj x (beq_false_of_ne h1) (beq_false_of_ne h2) (beq_false_of_ne h3) hx t01 t23 ⟨N,by omega,y0,y1⟩ ⟨N,by omega,y2,y3⟩ (by decide) ⟨_,by omega,k3 (by omega),u2⟩ ⟨_,by omega,u1.mono (Nat.le_succ _),u3⟩
        ⟨_,by omega,k3 (by omega),v2⟩ ⟨_,by omega,v1.mono (Nat.le_succ _),v3⟩ ⟨_,by omega,w1,w2.mono (by omega)⟩
       rw[show(1:Int)*(x.c0*x.c0)+2*(x.c1*x.c1)-(3*(x.c2*x.c2)+6*(x.c3*x.c3))=x.c0*x.c0+2*(x.c1*x.c1)-3*(x.c2*x.c2+2*(x.c3*x.c3)) by grind,
        show 2*(x.c0*x.c1)-6*(x.c2*x.c3)=2*(x.c0*x.c1)-3*(2*(x.c2*x.c3)) by grind]
       have s2:=zap (x.c0*x.c0+2*(x.c1*x.c1)-3*(x.c2*x.c2+2*(x.c3*x.c3))) (2*(x.c0*x.c1)-3*(2*(x.c2*x.c3)))
       generalize sg2 (x.c0*x.c0+2*(x.c1*x.c1)-3*(x.c2*x.c2+2*(x.c3*x.c3))) (2*(x.c0*x.c1)-3*(2*(x.c2*x.c3)))=t at*
       have hw:IntKind.i64.wrap (sg2 x.c0 x.c1*t)=sg2 x.c0 x.c1*t:=by
        have:sg2 x.c0 x.c1= -1∨sg2 x.c0 x.c1=1:=by omega
        rcases this with h|h<;>rw[h]<;>exact w64 (by omega)
       rw[hw]at h
       exact h
theorem zcd(x:RN)(hx:x.raw 1000000=true):PCall P 71 [x.c] (j6 (z0E x)):=by
 unfold z0E
 cases ex:toO x with
 |none=>exact zjp x (z0p ex) hx
 |some k=>
  have a:=z1o ex hx
  rw[zbz (z19 ex).2]
  exact zl0 k a
end Go.Fw
open Go
namespace Go.Fw
set_option maxRecDepth 100000
structure Q4 where
 a:Int
 b:Int
 c:Int
 d:Int
namespace Q4
def mul(x y:Q4):Q4:=⟨x.a*y.a+2*x.b*y.b+3*x.c*y.c+6*x.d*y.d,x.a*y.b+x.b*y.a+3*x.c*y.d+3*x.d*y.c,x.a*y.c+x.c*y.a+2*x.b*y.d+2*x.d*y.b,x.a*y.d+x.d*y.a+x.b*y.c+x.c*y.b⟩
def Sm(n:Nat)(x:Q4):Prop:=By4 n x.a x.b x.c x.d
end Q4
end Go.Fw
open Go
namespace Go.Fw
set_option maxRecDepth 100000
theorem Q4.Sm.mono{n m:Nat}{x:Q4}(h:Q4.Sm n x)(k:n≤m):Q4.Sm m x:=⟨h.1.mono k,h.2.1.mono k,h.2.2.1.mono k,h.2.2.2.mono k⟩
theorem Q4.Sm.mul{n m:Nat}{x y:Q4}(h:Q4.Sm n x)(k:Q4.Sm m y):Q4.Sm (n+m+4) (Q4.mul x y):=by
 obtain⟨h0,h1,h2,h3⟩:=h
 obtain⟨k0,k1,k2,k3⟩:=k
 have p: ∀{a b:Int},By n a→By m b→By (n+m+1) (a*b):=fun u v=>(u.mul v).mono (by omega)
 have q: ∀{a b:Int} (f:Int),-100≤f∧f≤100→By n a→By m b→By (n+m+1) (f*a*b):=fun f hf u v=>by
  have:=(u.mul v).k hf
  rwa[←Int.mul_assoc]at this
 have s: ∀{a b c d:Int},By (n+m+1) a→By (n+m+1) b→By (n+m+1) c→By (n+m+1) d→By (n+m+4) (a+b+c+d):=fun a b c d=>
  ((a.add b).add (c.mono (by omega))).add (d.mono (by omega))
 exact⟨s (p h0 k0) (q 2 (by decide) h1 k1) (q 3 (by decide) h2 k2) (q 6 (by decide) h3 k3),s (p h0 k1) (p h1 k0) (q 3 (by decide) h2 k3) (q 3 (by decide) h3 k2),
  s (p h0 k2) (p h2 k0) (q 2 (by decide) h1 k3) (q 2 (by decide) h3 k1),s (p h0 k3) (p h3 k0) (p h1 k2) (p h2 k1)⟩
end Go.Fw
open Go IntKind
namespace Go.Fw
set_option maxRecDepth 100000
theorem zjN(h1:(rnB aP.n.x (oV (4:Int) (0:Int) (3:Int)).x&&(rnB aP.n.y (oV (4:Int) (0:Int) (3:Int)).y&&(rnB aP.n.z (oV (4:Int) (0:Int) (3:Int)).z&&true)))=true)(h2:(rnB cP.n.x (oN (1:Int)))=true)(s2_0:(-9223372036854775808:Int)≤5∧(5:Int)≤9223372036854775807)(s42_0:(-9223372036854775808:Int)≤4∧(4:Int)≤9223372036854775807)(s42_1:(-9223372036854775808:Int)≤0∧(0:Int)≤9223372036854775807)(s42_2:(-9223372036854775808:Int)≤3∧(3:Int)≤9223372036854775807)(s49_0:(-9223372036854775808:Int)≤1∧(1:Int)≤9223372036854775807)(s72_0:(-9223372036854775808:Int)≤5∧(5:Int)≤9223372036854775807):PCall P 72 [] (.lit (.bool (rnB (oN (5:Int)) (oN (5:Int))))):=
 j4 (.r 2 (ziJ ((5:Int)) s2_0) (.r 3 (zrj) (.c (lq 40 40) (.r 11 (zrG) (.c (lq 40 40) (.r 19 (zrn) (.c (lq 3 3) (.c (lq 10 10) (.r 42 (znO ((4:Int)) ((0:Int)) ((3:Int)) s42_0 s42_1 s42_2) (.b 45 h1 (.r 49 (ziJ ((1:Int)) s49_0) (.b 52 h2 (.r 56 (zrm) (.r 62 (zrf) (.r 72 (ziJ ((5:Int)) s72_0) .nil))))))))))))))) (by kernel_rfl)
end Go.Fw
open Go IntKind
namespace Go.Fw
set_option maxRecDepth 100000
theorem zmc(x:RN)(h1:decide ((↑x.s0.size:Int)>10)=true):PCall P 74 [x.c,j6 10] (.lit (.bool false)):=
 j4 (.c (bq 0 4) (.b 15 h1 .nil)) (by kernel_rfl)
theorem zmJ(x:RN)(h1:decide ((↑x.s0.size:Int)>10)=false)(h2:decide ((↑x.s1.size:Int)>10)=true):PCall P 74 [x.c,j6 10] (.lit (.bool false)):=
 j4 (.c (bq 0 4) (.b 15 h1 (.c (bq 1 4) (.b 31 h2 .nil)))) (by kernel_rfl)
theorem zoc(x:RN)(h1:decide ((↑x.s0.size:Int)>10)=false)(h2:decide ((↑x.s1.size:Int)>10)=false)(h3:decide ((↑x.s2.size:Int)>10)=true):PCall P 74 [x.c,j6 10] (.lit (.bool false)):=
 j4 (.c (bq 0 4) (.b 15 h1 (.c (bq 1 4) (.b 31 h2 (.c (bq 2 4) (.b 47 h3 .nil)))))) (by kernel_rfl)
theorem zp2(x:RN)(h1:decide ((↑x.s0.size:Int)>10)=false)(h2:decide ((↑x.s1.size:Int)>10)=false)(h3:decide ((↑x.s2.size:Int)>10)=false)(h4:decide ((↑x.s3.size:Int)>10)=true):PCall P 74 [x.c,j6 10] (.lit (.bool false)):=
 j4 (.c (bq 0 4) (.b 15 h1 (.c (bq 1 4) (.b 31 h2 (.c (bq 2 4) (.b 47 h3 (.c (bq 3 4) (.b 63 h4 .nil)))))))) (by kernel_rfl)
theorem zpw(x:RN)(h1:decide ((↑x.s0.size:Int)>10)=false)(h2:decide ((↑x.s1.size:Int)>10)=false)(h3:decide ((↑x.s2.size:Int)>10)=false)(h4:decide ((↑x.s3.size:Int)>10)=false):PCall P 74 [x.c,j6 10] (.lit (.bool (decide ((↑x.s4.size:Int)≤10)))):=
 j4 (.c (bq 0 4) (.b 15 h1 (.c (bq 1 4) (.b 31 h2 (.c (bq 2 4) (.b 47 h3 (.c (bq 3 4) (.b 63 h4 .nil)))))))) (by kernel_rfl)
end Go.Fw
open Go
namespace Go.Fw
set_option maxRecDepth 100000
theorem z2L(x:RN):PCall P 74 [x.c,j6 10] (.lit (.bool (x.raw 10))):=by
 have big: ∀{n:Nat},¬n≤10→decide ((n:Int)>10)=true:=fun h=>decide_eq_true (by omega)
 have sml: ∀{n:Nat},n≤10→decide ((n:Int)>10)=false:=fun h=>decide_eq_false (by omega)
 unfold RN.raw
 by_cases h0:x.s0.size≤10
 · by_cases h1:x.s1.size≤10
   · by_cases h2:x.s2.size≤10
     · by_cases h3:x.s3.size≤10
       · refine(zpw x (sml h0) (sml h1) (sml h2) (sml h3)).eqB ?_
         rw[decide_eq_true h0,decide_eq_true h1,decide_eq_true h2,decide_eq_true h3,Bool.true_and,Bool.true_and,Bool.true_and,Bool.true_and,decide_eq_decide]
         omega
       · refine(zp2 x (sml h0) (sml h1) (sml h2) (big h3)).eqB ?_
         simp[h3]
     · refine(zoc x (sml h0) (sml h1) (big h2)).eqB ?_
       simp[h2]
   · refine(zmJ x (sml h0) (big h1)).eqB ?_
     simp[h1]
 · refine(zmc x (big h0)).eqB ?_
   simp[h0]
theorem z6A:PCall P 72 [] (.lit (.bool true)):=by
 have h:=zjN (by show(rnB (oN 4) (oV 4 0 3).x&&(rnB (oN 0) (oV 4 0 3).y&&(rnB (oN 3) (oV 4 0 3).z&&true)))=true;rw[zpK,zr5,zqY,z3t.2 rfl,z3t.2 rfl,z3t.2 rfl];rfl) zq4 (by decide) (by decide) (by decide) (by decide) (by decide) (by decide)
 rw[z3t.2 rfl]at h
 exact h
end Go.Fw
open Go
namespace Go.Fw
set_option maxRecDepth 100000
def z8z(h v i:Int):Bool:=decide (0≤h∧h≤1000∧ -1000≤v∧v≤1000∧Nat.gcd h.natAbs v.natAbs=1∧0≤i∧i<24∧(h≠0∨i=0))
def znS(v:Int):Int:=if IntKind.i64.wrap (0-v)>v then IntKind.i64.wrap (0-v)else v
theorem zeD{v:Int}(h1: -1000≤v)(h2:v≤1000):0≤znS v∧(znS v).natAbs=v.natAbs:=by
 unfold znS
 rw[w64 (by omega)]
 split<;>omega
theorem zr7{a b:Int}(h:a≠b):(a != b)=true:=bne_iff_ne.2 h
theorem zqT{a b:Int}(h:a=b):(a != b)=false:=by subst h;exact bne_self_eq_false _
theorem zh6(h v i:Int):PCall P 81 [.agg [j6 h,j6 v,j6 i]] (.lit (.bool (z8z h v i))):=by
 by_cases h1:h<0
 · rw[show z8z h v i=false from decide_eq_false (by omega)];exact znE h v i (decide_eq_true h1)
 by_cases h2:h>1000
 · rw[show z8z h v i=false from decide_eq_false (by omega)];exact zms h v i (decide_eq_false h1) (decide_eq_true h2)
 by_cases h3:v< -1000
 · rw[show z8z h v i=false from decide_eq_false (by omega)];exact zpE h v i (decide_eq_false h1) (decide_eq_false h2) (decide_eq_true h3)
 by_cases h4:v>1000
 · rw[show z8z h v i=false from decide_eq_false (by omega)];exact zpo h v i (decide_eq_false h1) (decide_eq_false h2) (decide_eq_false h3) (decide_eq_true h4)
 obtain⟨a0,ae⟩:=zeD (v:=v) (by omega) (by omega)
 have e1:=decide_eq_false h1
 have e2:=decide_eq_false h2
 have e3:=decide_eq_false h3
 have e4:=decide_eq_false h4
 by_cases h5:Nat.gcd h.natAbs v.natAbs=1
 · have e5:(((Nat.gcd h.natAbs (znS v).natAbs:Nat):Int) != 1)=false:=zqT (by rw[ae,h5];rfl)
   by_cases h6:i≥0
   · by_cases h7:i<24
     · by_cases h8:h=0
       · refine(znI h v i e1 e2 e3 e4 e5 (decide_eq_true h6) (decide_eq_true h7) (zqT h8) (by omega) a0).eq ?_
         congr 2
         cases e:i==0
         · have:=beq_eq_false_iff_ne.1 e
           exact(decide_eq_false (by omega)).symm
         · have:=beq_iff_eq.1 e
           exact(decide_eq_true (by omega)).symm
       · rw[show z8z h v i=true from decide_eq_true (by omega)]
         exact zn3 h v i e1 e2 e3 e4 e5 (decide_eq_true h6) (decide_eq_true h7) (zr7 h8) (by omega) a0
     · rw[show z8z h v i=false from decide_eq_false (by omega)]
       exact zp9 h v i e1 e2 e3 e4 e5 (decide_eq_true h6) (decide_eq_false h7) (by omega) a0
   · rw[show z8z h v i=false from decide_eq_false (by omega)]
     exact zoP h v i e1 e2 e3 e4 e5 (decide_eq_false h6) (by omega) a0
 · rw[show z8z h v i=false from decide_eq_false (by omega)]
   exact zmU h v i e1 e2 e3 e4 (zr7 (show((Nat.gcd h.natAbs (znS v).natAbs:Nat):Int)≠1 by rw[ae];omega)) (by omega) a0
def zby(x:K):Bool:=decide (x.c1=0∧x.c2=0∧x.c3=0)
theorem zlk{z:Int}:((bytesOf z.natAbs).toList==[])=decide (z=0):=by
 rw[X8,decide_eq_decide,V7];omega
theorem zfP(x:K)(h:Smk x):PCall P 218 [(kN x).c] (.lit (.bool (zby x))):=by
 rw[z1k]
 by_cases h1:x.c1=0
 · by_cases h2:x.c2=0
   · refine(zjP x (by rw[zlk];exact decide_eq_true h1) (by rw[zlk];exact decide_eq_true h2) h).eq ?_
     rw[zlk]
     congr 2
     unfold zby
     rw[decide_eq_decide];omega
   · rw[show zby x=false from decide_eq_false (by omega)]
     exact zjI x (by rw[zlk];exact decide_eq_true h1) (by rw[zlk];exact decide_eq_false h2) h
 · rw[show zby x=false from decide_eq_false (by omega)]
   exact zk8 x (by rw[zlk];exact decide_eq_false h1) h
theorem zmy(x:K):CV.agg [.lit (.bool (kN x).b0),.lit (.string (kN x).s0)]=J6 x.c0:=by rw[z1k];rfl
theorem zog(x:K):CV.agg [.lit (.bool (kN x).b4),.lit (.string (kN x).s4)]=J6 x.d:=by rw[z1k];rfl
theorem z6E(x:K):PCall P 217 [.agg [.lit (.bool (kN x).b0),.lit (.string (kN x).s0)]] (.tup [j6 (z0D x.c0).1,.lit (.bool (z0D x.c0).2)]):=by rw[zmy];exact zgS _
theorem z6y(x:K):PCall P 217 [.agg [.lit (.bool (kN x).b4),.lit (.string (kN x).s4)]] (.tup [j6 (z0D x.d).1,.lit (.bool (z0D x.d).2)]):=by rw[zog];exact zgS _
end Go.Fw
open Go IntKind
namespace Go.Fw
set_option maxRecDepth 100000
theorem zoA(x:K)(h1:((z0D x.c0).2)=true)(h2:((z0D x.d).2)=true)(h3:(zby x)=true)(h4:decide ((z0D x.c0).1≥(-1000:Int))=true)(h5:decide ((z0D x.c0).1≤1000)=true)(s29_0:Smk x):PCall P 159 [(kN x).c] (.tup [.lit (.int .i64 (z0D x.c0).1),.lit (.int .i64 (z0D x.d).1),.lit (.bool (decide ((z0D x.d).1≤1000)))]):=
 j4 (.c (bq 0 4) (.r 7 (z6E (x)) (.r 15 (z6y (x)) (.b 24 h1 (.b 27 h2 (.r 29 ((zfP (x) s29_0).eqB h3) (.b 35 h4 (.b 39 h5 .nil)))))))) (by kernel_rfl)
theorem zlp(x:K)(h1:((z0D x.c0).2)=true)(h2:((z0D x.d).2)=true)(h3:(zby x)=true)(h4:decide ((z0D x.c0).1≥(-1000:Int))=true)(h5:decide ((z0D x.c0).1≤1000)=false)(s29_0:Smk x):PCall P 159 [(kN x).c] (.tup [.lit (.int .i64 (z0D x.c0).1),.lit (.int .i64 (z0D x.d).1),.lit (.bool false)]):=
 j4 (.c (bq 0 4) (.r 7 (z6E (x)) (.r 15 (z6y (x)) (.b 24 h1 (.b 27 h2 (.r 29 ((zfP (x) s29_0).eqB h3) (.b 35 h4 (.b 39 h5 .nil)))))))) (by kernel_rfl)
theorem znp(x:K)(h1:((z0D x.c0).2)=true)(h2:((z0D x.d).2)=true)(h3:(zby x)=true)(h4:decide ((z0D x.c0).1≥(-1000:Int))=false)(s29_0:Smk x):PCall P 159 [(kN x).c] (.tup [.lit (.int .i64 (z0D x.c0).1),.lit (.int .i64 (z0D x.d).1),.lit (.bool false)]):=
 j4 (.c (bq 0 4) (.r 7 (z6E (x)) (.r 15 (z6y (x)) (.b 24 h1 (.b 27 h2 (.r 29 ((zfP (x) s29_0).eqB h3) (.b 35 h4 .nil))))))) (by kernel_rfl)
theorem zm1(x:K)(h1:((z0D x.c0).2)=true)(h2:((z0D x.d).2)=true)(h3:(zby x)=false)(s29_0:Smk x):PCall P 159 [(kN x).c] (.tup [.lit (.int .i64 (z0D x.c0).1),.lit (.int .i64 (z0D x.d).1),.lit (.bool false)]):=
 j4 (.c (bq 0 4) (.r 7 (z6E (x)) (.r 15 (z6y (x)) (.b 24 h1 (.b 27 h2 (.r 29 ((zfP (x) s29_0).eqB h3) .nil)))))) (by kernel_rfl)
theorem zlW(x:K)(h1:((z0D x.c0).2)=true)(h2:((z0D x.d).2)=false):PCall P 159 [(kN x).c] (.tup [.lit (.int .i64 (z0D x.c0).1),.lit (.int .i64 (z0D x.d).1),.lit (.bool false)]):=
 j4 (.c (bq 0 4) (.r 7 (z6E (x)) (.r 15 (z6y (x)) (.b 24 h1 (.b 27 h2 .nil))))) (by kernel_rfl)
theorem zmr(x:K)(h1:((z0D x.c0).2)=false):PCall P 159 [(kN x).c] (.tup [.lit (.int .i64 (z0D x.c0).1),.lit (.int .i64 (z0D x.d).1),.lit (.bool false)]):=
 j4 (.c (bq 0 4) (.r 7 (z6E (x)) (.r 15 (z6y (x)) (.b 24 h1 .nil)))) (by kernel_rfl)
theorem znK(h v i:Int)(d:RN)(h1:(d.ok)=true)(h2:(z8z h v i)=true)(s5_0:RN.raw 1000000 d=true)(s16_0:(-9223372036854775808:Int)≤h∧h≤9223372036854775807)(s23_0:RN.raw 1000000 (oN h)=true)(s23_1:RN.raw 1000000 (kN (Y0 i))=true)(s28_0:RN.raw 1000000 (oN h)=true)(s28_1:RN.raw 1000000 (kN (Y5 i))=true)(s31_0:(-9223372036854775808:Int)≤v∧v≤9223372036854775807):PCall P 75 [.agg [j6 h,j6 v,j6 i],d.c] (.tup [plR (W7 (oN h) (kN (Y0 i))) (W7 (oN h) (kN (Y5 i))) (oN v) d,.lit (.int .i64 0)]):=
 j4 (.r 5 ((z0V (d) s5_0).eqB h1) (.r 10 ((zh6 (h) (v) (i)).eqB h2) (.r 16 (z21 (h) s16_0) (.c (lq 10 10) (.r 22 (zbi (i)) (.r 23 (z0g (oN h) (kN (Y0 i)) s23_0 s23_1) (.r 27 (zaC (i)) (.r 28 (z0g (oN h) (kN (Y5 i)) s28_0 s28_1) (.r 31 (z21 (v) s31_0) (.c (lq 30 30) (.c (lq 40 40) .nil))))))))))) (by kernel_rfl)
theorem zn2(h v i:Int)(d:RN)(h1:(d.ok)=true)(h2:(z8z h v i)=false)(s5_0:RN.raw 1000000 d=true):PCall P 75 [.agg [j6 h,j6 v,j6 i],d.c] (.tup [zcR,.lit (.int .i64 15)]):=
 j4 (.r 5 ((z0V (d) s5_0).eqB h1) (.r 10 ((zh6 (h) (v) (i)).eqB h2) (.c (lq 40 40) .nil))) (by kernel_rfl)
theorem zm3(h v i:Int)(d:RN)(h1:(d.ok)=false)(s5_0:RN.raw 1000000 d=true):PCall P 75 [.agg [j6 h,j6 v,j6 i],d.c] (.tup [zcR,.lit (.int .i64 1)]):=
 j4 (.r 5 ((z0V (d) s5_0).eqB h1) (.c (lq 40 40) .nil)) (by kernel_rfl)
end Go.Fw
open Go
namespace Go.Fw
set_option maxRecDepth 100000
theorem RN.l_inj{x y:RN}(h:x.l=y.l):x=y:=by
 obtain⟨b0,s0,b1,s1,b2,s2,b3,s3,b4,s4⟩:=x
 obtain⟨c0,t0,c1,t1,c2,t2,c3,t3,c4,t4⟩:=y
 unfold RN.l at h
 simp only[List.cons.injEq,and_true,Z9,CV.lit.injEq,Value.bool.injEq,Value.string.injEq]at h
 obtain⟨rfl,h0,rfl,h1,rfl,h2,rfl,h3,rfl,h4⟩:=h
 subst h0 h1 h2 h3 h4
 rfl
theorem z6K{x:RN}(h:x.ok=true): ∃k,x=kN k:=by
 obtain⟨k,_,e⟩:=zgs h
 refine⟨k,RN.l_inj ?_⟩
 rw[e,z1k,RN.ofK_l]
noncomputable def kV(a b c:K):VN:=⟨kN a,kN b,kN c⟩
theorem zqn{v:VN}(h:v.ok=true): ∃a b c,v=kV a b c:=by
 obtain⟨x,y,z⟩:=v
 have h:ok3 x y z=true:=h
 unfold ok3 at h
 simp only[Bool.and_eq_true]at h
 obtain⟨h1,h2,h3⟩:=h
 obtain⟨a,rfl⟩:=z6K h1
 obtain⟨b,rfl⟩:=z6K h2
 obtain⟨c,rfl⟩:=z6K h3
 exact⟨a,b,c,rfl⟩
theorem zqQ(a b c:K):(kV a b c).ok=true:=by
 show ok3 (kN a) (kN b) (kN c)=true
 unfold ok3
 rw[z6f,z6f,z6f];rfl
theorem z7H(a b c k:K):z05 (kV a b c) (kN k)=kV (a*k) (b*k) (c*k):=zat a b c k
theorem zrc(x y z:Bool):(x&&(y&&(z&&true)))=true↔x=true∧y=true∧z=true:=by cases x<;>cases y<;>cases z<;>simp
theorem zq9(a b c:K):zV (kV a b c)=true↔a=0∧b=0∧c=0:=by
 unfold zV kV
 rw[zpK,zr5,zqY,z2a]
 dsimp only
 refine(zrc (rnB (kN a) (kN (K.ofInt 0))) (rnB (kN b) (kN (K.ofInt 0))) (rnB (kN c) (kN (K.ofInt 0)))).trans ?_
 exact and_congr (z8X _ _) (and_congr (z8X _ _) (z8X _ _))
noncomputable def kP(a b c d:K):PN:=⟨kV a b c,kN d⟩
theorem zbl{a b c d:K}:(kP a b c d).ok=true↔ ¬(a=0∧b=0∧c=0):=by
 unfold PN.ok kP
 dsimp only
 rw[zqQ,z6f,Bool.true_and,Bool.and_true,←zq9,Bool.not_eq_true',Bool.not_eq_true]
theorem zf0{n:VN}{d:RN}(h:(PN.mk n d).ok=true):n.ok=true∧d.ok=true:=by
 unfold PN.ok at h
 dsimp only at h
 generalize n.ok=x at*
 generalize d.ok=y at*
 generalize zV n=w at*
 revert h
 cases x<;>cases y<;>cases w<;>simp
theorem znb{p:PN}(h:p.ok=true): ∃a b c d,p=kP a b c d:=by
 obtain⟨h1,h3⟩:=zf0 (n:=p.n) (d:=p.d) h
 obtain⟨a,b,c,e⟩:=zqn h1
 obtain⟨k,e'⟩:=z6K h3
 refine⟨a,b,c,k,?_⟩
 unfold kP
 rw[←e,←e']
end Go.Fw
open Go
namespace Go.Fw
set_option maxRecDepth 100000
def smK(k:K):Int×Int×Bool:=((z0D k.c0).1,(z0D k.d).1,(z0D k.c0).2&&((z0D k.d).2&&(zby k&&(decide ((z0D k.c0).1≥ -1000)&&(decide ((z0D k.c0).1≤1000)&&decide ((z0D k.d).1≤1000))))))
theorem zi8(x:K)(hs:Smk x):PCall P 159 [(kN x).c] (.tup [j6 (smK x).1,j6 (smK x).2.1,.lit (.bool (smK x).2.2)]):=by
 unfold smK
 cases h1:(z0D x.c0).2
 · exact zmr x h1
 cases h2:(z0D x.d).2
 · exact zlW x h1 h2
 cases h3:zby x
 · exact zm1 x h1 h2 h3 hs
 cases h4:decide ((z0D x.c0).1≥ -1000)
 · exact znp x h1 h2 h3 h4 hs
 cases h5:decide ((z0D x.c0).1≤1000)
 · exact zlp x h1 h2 h3 h4 h5 hs
 · exact zoA x h1 h2 h3 h4 h5 hs
noncomputable def smV(x:RN):Int×Int×Bool:=match toO x with|some k=>smK k|none=>(0,0,false)
theorem z7w(x:RN)(hok:x.ok=true)(hx:x.raw 1000000=true):PCall P 159 [x.c] (.tup [j6 (smV x).1,j6 (smV x).2.1,.lit (.bool (smV x).2.2)]):=by
 obtain⟨k,rfl⟩:=z6K hok
 have hs:=z1r hx
 unfold smV
 rw[z0J]at hs ⊢
 exact zi8 k (Nat.lt_of_le_of_lt hs (by decide))
noncomputable def zqe(h v i:Int):VN:=⟨W7 (oN h) (kN (Y0 i)),W7 (oN h) (kN (Y5 i)),oN v⟩
noncomputable def ofP(h v i:Int)(d:RN):PN×Int:=if d.ok then(if z8z h v i then(⟨zqe h v i,d⟩,0)else(.zero,15))else(.zero,1)
theorem zc5{h v i:Int}(e:z8z h v i=true):0≤h∧h≤1000∧ -1000≤v∧v≤1000∧Nat.gcd h.natAbs v.natAbs=1∧0≤i∧i<24∧(h≠0∨i=0):=of_decide_eq_true e
theorem z7A{n:Int}(h1: -1000≤n)(h2:n≤1000):(K.ofInt n).sz≤2:=K.sz_int n (by decide) (by omega)
theorem zgr(h v i:Int)(d:RN)(hd:d.raw 1000000=true):PCall P 75 [.agg [j6 h,j6 v,j6 i],d.c] (.tup [(ofP h v i d).1.c,j6 (ofP h v i d).2]):=by
 unfold ofP
 cases h1:d.ok
 · exact zm3 h v i d h1 hd
 cases h2:z8z h v i
 · exact zn2 h v i d h1 h2 hd
 · have b:=zc5 h2
   have o:=z0K (z:=h) (n:=1000000) (Nat.le_trans (z7A (by omega) (by omega)) (by decide))
   exact znK h v i d h1 h2 hd (by omega) o (z5t i (by decide)) o (z5P i (by decide)) (by omega)
end Go.Fw
open Go IntKind
namespace Go.Fw
set_option maxRecDepth 100000
theorem zpz(p:PN)(g:p.ok=false)(s5_0:PN.raw 1000000 p=true):PCall P 77 [p.c] (.tup [.agg [.lit (.int .i64 0),.lit (.int .i64 0),.lit (.int .i64 0)],.agg z0b,.lit (.int .i64 1)]):=
 j4 (.r 5 ((z2x (p) s5_0).eqB g) (.c (lq 3 3) (.c (lq 10 10) .nil))) (by kernel_rfl)
theorem zmP(p:PN)(g:p.ok=true)(h1:(rnB p.n.x (oN (0:Int)))=true)(h2:(rnB p.n.y (oN (0:Int)))=true)(s5_0:PN.raw 1000000 p=true)(s11_0:RN.raw 1000000 p.n.z=true)(s16_0 s22_0:(-9223372036854775808:Int)≤0∧(0:Int)≤9223372036854775807)(s33_0:RN.raw 1000000 p.n.z=true)(s34_0:RN.raw 1000000 p.d=true)(s34_1:RN.raw 1000000 (z8c p.n.z)=true):PCall P 77 [p.c] (.tup [.agg [.lit (.int .i64 0),.lit (.int .i64 (z0E p.n.z)),.lit (.int .i64 0)],RN.c (X2 p.d (z8c p.n.z)).fst,.lit (.int .i64 0)]):=
 j4 (.r 5 ((z2x (p) s5_0).eqB g) (.r 11 (z0c (p.n.z) s11_0) (.r 16 (z21 ((0:Int)) s16_0) (.b 18 h1 (.r 22 (z21 ((0:Int)) s22_0) (.b 25 h2 (.r 33 (zho (p.n.z) s33_0) (.r 34 (z3i (p.d) (z8c p.n.z) s34_0 s34_1) (.c (lq 3 3) (.c (lq 10 10) .nil)))))))))) (by kernel_rfl)
theorem zoT(p:PN)(g:p.ok=true)(h1:(rnB p.n.x (oN (0:Int)))=true)(h2:(rnB p.n.y (oN (0:Int)))=false)(h3:(!(z0e p.n.x p.n.y).snd.2)=true)(s5_0:PN.raw 1000000 p=true)(s11_0:RN.raw 1000000 p.n.z=true)(s16_0 s22_0:(-9223372036854775808:Int)≤0∧(0:Int)≤9223372036854775807)(s32_0:RN.raw 1000 p.n.x=true)(s32_1:RN.raw 1000 p.n.y=true):PCall P 77 [p.c] (.tup [.agg [.lit (.int .i64 0),.lit (.int .i64 0),.lit (.int .i64 0)],.agg z0b,.lit (.int .i64 7)]):=
 j4 (.r 5 ((z2x (p) s5_0).eqB g) (.r 11 (z0c (p.n.z) s11_0) (.r 16 (z21 ((0:Int)) s16_0) (.b 18 h1 (.r 22 (z21 ((0:Int)) s22_0) (.b 25 h2 (.r 32 (zbx (p.n.x) (p.n.y) s32_0 s32_1) (.c (lq 10 10) (.b 43 h3 (.c (lq 3 3) (.c (lq 10 10) .nil))))))))))) (by kernel_rfl)
theorem zpg(p:PN)(g:p.ok=true)(h1:(rnB p.n.x (oN (0:Int)))=true)(h2:(rnB p.n.y (oN (0:Int)))=false)(h3:(!(z0e p.n.x p.n.y).snd.2)=false)(h4:(!(smV (X2 p.n.z (z0e p.n.x p.n.y).snd.fst).fst).snd.2)=true)(s5_0:PN.raw 1000000 p=true)(s11_0:RN.raw 1000000 p.n.z=true)(s16_0 s22_0:(-9223372036854775808:Int)≤0∧(0:Int)≤9223372036854775807)(s32_0:RN.raw 1000 p.n.x=true)(s32_1:RN.raw 1000 p.n.y=true)(s48_0:RN.raw 1000000 p.n.z=true)(s48_1:RN.raw 1000000 (z0e p.n.x p.n.y).snd.fst=true)(s49_0:(X2 p.n.z (z0e p.n.x p.n.y).snd.fst).fst.ok=true)(s49_1:RN.raw 1000000 (X2 p.n.z (z0e p.n.x p.n.y).snd.fst).fst=true):PCall P 77 [p.c] (.tup [.agg [.lit (.int .i64 0),.lit (.int .i64 0),.lit (.int .i64 0)],.agg z0b,.lit (.int .i64 7)]):=
 j4 (.r 5 ((z2x (p) s5_0).eqB g) (.r 11 (z0c (p.n.z) s11_0) (.r 16 (z21 ((0:Int)) s16_0) (.b 18 h1 (.r 22 (z21 ((0:Int)) s22_0) (.b 25 h2 (.r 32 (zbx (p.n.x) (p.n.y) s32_0 s32_1) (.c (lq 10 10) (.b 43 h3 (.r 48 (z3i (p.n.z) ((z0e p.n.x p.n.y).snd.fst) s48_0 s48_1) (.r 49 (z7w ((X2 p.n.z (z0e p.n.x p.n.y).snd.fst).fst) s49_0 s49_1) (.b 59 h4 (.c (lq 3 3) (.c (lq 10 10) .nil)))))))))))))) (by kernel_rfl)
theorem znq(p:PN)(g:p.ok=true)(h1:(rnB p.n.x (oN (0:Int)))=true)(h2:(rnB p.n.y (oN (0:Int)))=false)(h3:(!(z0e p.n.x p.n.y).snd.2)=false)(h4:(!(smV (X2 p.n.z (z0e p.n.x p.n.y).snd.fst).fst).snd.2)=false)(s5_0:PN.raw 1000000 p=true)(s11_0:RN.raw 1000000 p.n.z=true)(s16_0 s22_0:(-9223372036854775808:Int)≤0∧(0:Int)≤9223372036854775807)(s32_0:RN.raw 1000 p.n.x=true)(s32_1:RN.raw 1000 p.n.y=true)(s48_0:RN.raw 1000000 p.n.z=true)(s48_1:RN.raw 1000000 (z0e p.n.x p.n.y).snd.fst=true)(s49_0:(X2 p.n.z (z0e p.n.x p.n.y).snd.fst).fst.ok=true)(s49_1:RN.raw 1000000 (X2 p.n.z (z0e p.n.x p.n.y).snd.fst).fst=true)(s67_0:(-9223372036854775808:Int)≤(smV (X2 p.n.z (z0e p.n.x p.n.y).snd.fst).fst).snd.1∧(smV (X2 p.n.z (z0e p.n.x p.n.y).snd.fst).fst).snd.1≤9223372036854775807)(s68_0:RN.raw 1000000 p.d=true)(s68_1:RN.raw 1000000 (oN (smV (X2 p.n.z (z0e p.n.x p.n.y).snd.fst).fst).snd.1)=true)(s70_0:RN.raw 1000000 (W7 p.d (oN (smV (X2 p.n.z (z0e p.n.x p.n.y).snd.fst).fst).snd.1))=true)(s70_1:RN.raw 1000000 (z0e p.n.x p.n.y).snd.fst=true):PCall P 77 [p.c] (.tup [.agg [.lit (.int .i64 (smV (X2 p.n.z (z0e p.n.x p.n.y).snd.fst).fst).snd.1),.lit (.int .i64 (smV (X2 p.n.z (z0e p.n.x p.n.y).snd.fst).fst).1),.lit (.int .i64 (z0e p.n.x p.n.y).1)],RN.c (X2 (W7 p.d (oN (smV (X2 p.n.z (z0e p.n.x p.n.y).snd.fst).fst).snd.1)) (z0e p.n.x p.n.y).snd.fst).fst,.lit (.int .i64 0)]):=
 j4 (.r 5 ((z2x (p) s5_0).eqB g) (.r 11 (z0c (p.n.z) s11_0) (.r 16 (z21 ((0:Int)) s16_0) (.b 18 h1 (.r 22 (z21 ((0:Int)) s22_0) (.b 25 h2 (.r 32 (zbx (p.n.x) (p.n.y) s32_0 s32_1) (.c (lq 10 10) (.b 43 h3 (.r 48 (z3i (p.n.z) ((z0e p.n.x p.n.y).snd.fst) s48_0 s48_1) (.r 49 (z7w ((X2 p.n.z (z0e p.n.x p.n.y).snd.fst).fst) s49_0 s49_1) (.b 59 h4 (.r 67 (z21 ((smV (X2 p.n.z (z0e p.n.x p.n.y).snd.fst).fst).snd.1) s67_0) (.r 68 (z0g (p.d) (oN (smV (X2 p.n.z (z0e p.n.x p.n.y).snd.fst).fst).snd.1) s68_0 s68_1) (.r 70 (z3i (W7 p.d (oN (smV (X2 p.n.z (z0e p.n.x p.n.y).snd.fst).fst).snd.1)) ((z0e p.n.x p.n.y).snd.fst) s70_0 s70_1) (.c (lq 3 3) (.c (lq 10 10) .nil))))))))))))))))) (by kernel_rfl)
theorem zlJ(p:PN)(g:p.ok=true)(h1:(rnB p.n.x (oN (0:Int)))=false)(h2:(!(z0e p.n.x p.n.y).snd.2)=true)(s5_0:PN.raw 1000000 p=true)(s11_0:RN.raw 1000000 p.n.z=true)(s16_0:(-9223372036854775808:Int)≤0∧(0:Int)≤9223372036854775807)(s32_0:RN.raw 1000 p.n.x=true)(s32_1:RN.raw 1000 p.n.y=true):PCall P 77 [p.c] (.tup [.agg [.lit (.int .i64 0),.lit (.int .i64 0),.lit (.int .i64 0)],.agg z0b,.lit (.int .i64 7)]):=
 j4 (.r 5 ((z2x (p) s5_0).eqB g) (.r 11 (z0c (p.n.z) s11_0) (.r 16 (z21 ((0:Int)) s16_0) (.b 18 h1 (.r 32 (zbx (p.n.x) (p.n.y) s32_0 s32_1) (.c (lq 10 10) (.b 43 h2 (.c (lq 3 3) (.c (lq 10 10) .nil))))))))) (by kernel_rfl)
theorem zmZ(p:PN)(g:p.ok=true)(h1:(rnB p.n.x (oN (0:Int)))=false)(h2:(!(z0e p.n.x p.n.y).snd.2)=false)(h3:(!(smV (X2 p.n.z (z0e p.n.x p.n.y).snd.fst).fst).snd.2)=true)(s5_0:PN.raw 1000000 p=true)(s11_0:RN.raw 1000000 p.n.z=true)(s16_0:(-9223372036854775808:Int)≤0∧(0:Int)≤9223372036854775807)(s32_0:RN.raw 1000 p.n.x=true)(s32_1:RN.raw 1000 p.n.y=true)(s48_0:RN.raw 1000000 p.n.z=true)(s48_1:RN.raw 1000000 (z0e p.n.x p.n.y).snd.fst=true)(s49_0:(X2 p.n.z (z0e p.n.x p.n.y).snd.fst).fst.ok=true)(s49_1:RN.raw 1000000 (X2 p.n.z (z0e p.n.x p.n.y).snd.fst).fst=true):PCall P 77 [p.c] (.tup [.agg [.lit (.int .i64 0),.lit (.int .i64 0),.lit (.int .i64 0)],.agg z0b,.lit (.int .i64 7)]):=
 j4 (.r 5 ((z2x (p) s5_0).eqB g) (.r 11 (z0c (p.n.z) s11_0) (.r 16 (z21 ((0:Int)) s16_0) (.b 18 h1 (.r 32 (zbx (p.n.x) (p.n.y) s32_0 s32_1) (.c (lq 10 10) (.b 43 h2 (.r 48 (z3i (p.n.z) ((z0e p.n.x p.n.y).snd.fst) s48_0 s48_1) (.r 49 (z7w ((X2 p.n.z (z0e p.n.x p.n.y).snd.fst).fst) s49_0 s49_1) (.b 59 h3 (.c (lq 3 3) (.c (lq 10 10) .nil)))))))))))) (by kernel_rfl)
theorem zmK(p:PN)(g:p.ok=true)(h1:(rnB p.n.x (oN (0:Int)))=false)(h2:(!(z0e p.n.x p.n.y).snd.2)=false)(h3:(!(smV (X2 p.n.z (z0e p.n.x p.n.y).snd.fst).fst).snd.2)=false)(s5_0:PN.raw 1000000 p=true)(s11_0:RN.raw 1000000 p.n.z=true)(s16_0:(-9223372036854775808:Int)≤0∧(0:Int)≤9223372036854775807)(s32_0:RN.raw 1000 p.n.x=true)(s32_1:RN.raw 1000 p.n.y=true)(s48_0:RN.raw 1000000 p.n.z=true)(s48_1:RN.raw 1000000 (z0e p.n.x p.n.y).snd.fst=true)(s49_0:(X2 p.n.z (z0e p.n.x p.n.y).snd.fst).fst.ok=true)(s49_1:RN.raw 1000000 (X2 p.n.z (z0e p.n.x p.n.y).snd.fst).fst=true)(s67_0:(-9223372036854775808:Int)≤(smV (X2 p.n.z (z0e p.n.x p.n.y).snd.fst).fst).snd.1∧(smV (X2 p.n.z (z0e p.n.x p.n.y).snd.fst).fst).snd.1≤9223372036854775807)(s68_0:RN.raw 1000000 p.d=true)(s68_1:RN.raw 1000000 (oN (smV (X2 p.n.z (z0e p.n.x p.n.y).snd.fst).fst).snd.1)=true)(s70_0:RN.raw 1000000 (W7 p.d (oN (smV (X2 p.n.z (z0e p.n.x p.n.y).snd.fst).fst).snd.1))=true)(s70_1:RN.raw 1000000 (z0e p.n.x p.n.y).snd.fst=true):PCall P 77 [p.c] (.tup [.agg [.lit (.int .i64 (smV (X2 p.n.z (z0e p.n.x p.n.y).snd.fst).fst).snd.1),.lit (.int .i64 (smV (X2 p.n.z (z0e p.n.x p.n.y).snd.fst).fst).1),.lit (.int .i64 (z0e p.n.x p.n.y).1)],RN.c (X2 (W7 p.d (oN (smV (X2 p.n.z (z0e p.n.x p.n.y).snd.fst).fst).snd.1)) (z0e p.n.x p.n.y).snd.fst).fst,.lit (.int .i64 0)]):=
 j4 (.r 5 ((z2x (p) s5_0).eqB g) (.r 11 (z0c (p.n.z) s11_0) (.r 16 (z21 ((0:Int)) s16_0) (.b 18 h1 (.r 32 (zbx (p.n.x) (p.n.y) s32_0 s32_1) (.c (lq 10 10) (.b 43 h2 (.r 48 (z3i (p.n.z) ((z0e p.n.x p.n.y).snd.fst) s48_0 s48_1) (.r 49 (z7w ((X2 p.n.z (z0e p.n.x p.n.y).snd.fst).fst) s49_0 s49_1) (.b 59 h3 (.r 67 (z21 ((smV (X2 p.n.z (z0e p.n.x p.n.y).snd.fst).fst).snd.1) s67_0) (.r 68 (z0g (p.d) (oN (smV (X2 p.n.z (z0e p.n.x p.n.y).snd.fst).fst).snd.1) s68_0 s68_1) (.r 70 (z3i (W7 p.d (oN (smV (X2 p.n.z (z0e p.n.x p.n.y).snd.fst).fst).snd.1)) ((z0e p.n.x p.n.y).snd.fst) s70_0 s70_1) (.c (lq 3 3) (.c (lq 10 10) .nil))))))))))))))) (by kernel_rfl)
end Go.Fw
open Go
namespace Go.Fw
set_option maxRecDepth 100000
theorem z5V(n:Nat):PN.zero.raw n=true:=by
 refine PN.raw_mono (n:=0) ?_ (Nat.zero_le _)
 kernel_rfl
theorem zaO{v:VN}{k:RN}{n:Nat}(hv:v.raw n=true)(hk:k.raw n=true):(z05 v k).raw (n+n+1)=true:=by
 refine zc9 ?_
 have hk':=z1r hk
 cases ev:toV v with
 |none=>exact Nat.zero_le _
 |some a=>
  cases ew:toO k with
  |none=>exact Nat.zero_le _
  |some b=>
   rw[ew]at hk'
   have hk':b.sz≤n:=hk'
   obtain⟨x,y,z⟩:=z9H ev hv
   have m1:=K.sz_mul a.x b
   have m2:=K.sz_mul a.y b
   have m3:=K.sz_mul a.z b
   show max (a.x*b).sz (max (a.y*b).sz (a.z*b).sz)≤n+n+1
   omega
end Go.Fw
