/- A part of the proof that the law returns true for every input: an executor for the model's code, and what functions of the program compute. -/
import Derived.Test.YtcafjpldfnegiaaGreatDoorB11
import Derived.Test.YtcafjpldfnegiaaGreatDoorB15
import Derived.Test.YtcafjpldfnegiaaGreatDoorB16
import Derived.Test.YtcafjpldfnegiaaGreatDoorB21
import Derived.Test.YtcafjpldfnegiaaGreatDoorB28
import Derived.Test.YtcafjpldfnegiaaGreatDoorB32
import Derived.Test.YtcafjpldfnegiaaGreatDoorB33
import Derived.Test.YtcafjpldfnegiaaGreatDoorB35
import Derived.Test.YtcafjpldfnegiaaGreatDoorB36
import Derived.Test.YtcafjpldfnegiaaGreatDoorB37
import Derived.Test.YtcafjpldfnegiaaGreatDoorB38
import Derived.Test.YtcafjpldfnegiaaGreatDoorB39
import Derived.KernelRfl
open Go IntKind
namespace Go.Fw
set_option maxRecDepth 100000
theorem z9Y{v w:VN}{n:Nat}(hv:v.raw n=true)(hw:w.raw n=true):(z3n v w).raw (n+n+n+n+3)=true:=by
 refine z6f ?_
 cases ev:toV v with
 |none=>exact Nat.zero_le _
 |some a=>
  cases ew:toV w with
  |none=>exact Nat.zero_le _
  |some b=>
   obtain⟨x,y,z⟩:=z1w ev hv
   obtain⟨x',y',z'⟩:=z1w ew hw
   have key: ∀c d e f:K,c.sz≤n→d.sz≤n→e.sz≤n→f.sz≤n→(c*d-e*f).sz≤n+n+n+n+3:=by
    intro c d e f h1 h2 h3 h4
    have m1:=K.sz_mul c d
    have m2:=K.sz_mul e f
    have m3:=K.sz_sub (c*d) (e*f)
    omega
   have k1:=key a.y b.z a.z b.y y z' z y'
   have k2:=key a.z b.x a.x b.z z x' x z'
   have k3:=key a.x b.y a.y b.x x y' y x'
   show max (a.y*b.z-a.z*b.y).sz (max (a.z*b.x-a.x*b.z).sz (a.x*b.y-a.y*b.x).sz)≤_
   omega
theorem zcB(a b:Int)(h:Two a b):PCall P 128 [J7 a,J7 b] (J7 (a*b)):=by
 obtain⟨n,hn,ha,hb⟩:=h
 exact z4X a b (ha.sml (by omega)) (hb.sml (by omega)) (ha.sm2 hb (by omega))
theorem z8k(k:Nat)(b:Int)(h:Two k b):PCall P 128 [.agg [.lit (.bool false),.lit (.string (bytesOf k))],J7 b] (J7 (k*b)):=by
 have:=zcB k b h
 unfold J7 at this ⊢
 rw[show decide ((k:Int)<0)=false from decide_eq_false (by omega)]at this
 exact this
theorem zle(a b:Int)(h:Two a b):PCall P 127 [J7 a,J7 b] (J7 (a+b)):=by
 obtain⟨n,hn,ha,hb⟩:=h
 exact z7H a b (ha.sml (by omega)) (hb.sml (by omega)) (ha.sma hb (by omega))
theorem zeA(a b:Int):(if a<b then(-1:Int)else if a=b then 0 else 1)=(a-b).sign:=by
 rcases Int.lt_trichotomy a b with h|h|h
 · rw[if_pos h,Int.sign_eq_neg_one_of_neg (by omega)]
 · rw[if_neg (by omega),if_pos h,h,Int.sub_self];rfl
 · rw[if_neg (by omega),if_neg (by omega),Int.sign_eq_one_of_pos (by omega)]
theorem zlc(a b:Int)(h:Two a b):PCall P 213 [J7 a,J7 b] (j7 (a-b).sign):=by
 obtain⟨n,hn,ha,hb⟩:=h
 rw[←zeA]
 exact zaO a b (ha.sml (by omega)) (hb.sml (by omega))
theorem zhi(a b:Int)(h1:(a.sign==b.sign)=true):PCall P 151 [J7 a,J7 b] (.lit (.int .i64 a.sign)):=
 j5 (.r 4 (Z3 a) (.r 6 (Z3 b) (.b 12 h1 .nil))) (by kernel_rfl)
theorem zhG(a b:Int)(h1:(a.sign==b.sign)=false)(h2:(b.sign==0)=true):PCall P 151 [J7 a,J7 b] (.lit (.int .i64 a.sign)):=
 j5 (.r 4 (Z3 a) (.r 6 (Z3 b) (.b 12 h1 (.b 16 h2 .nil)))) (by kernel_rfl)
theorem ziM(a b:Int)(h1:(a.sign==b.sign)=false)(h2:(b.sign==0)=false)(h3:(a.sign==0)=true):PCall P 151 [J7 a,J7 b] (.lit (.int .i64 b.sign)):=
 j5 (.r 4 (Z3 a) (.r 6 (Z3 b) (.b 12 h1 (.b 16 h2 (.b 19 h3 .nil))))) (by kernel_rfl)
theorem zgl(a b:Int)(h1:(a.sign==b.sign)=false)(h2:(b.sign==0)=false)(h3:(a.sign==0)=false)(c:Two a a)(d:(-9223372036854775808:Int)≤2∧(2:Int)≤9223372036854775807)(e:Two b b)(f:Two (2:Int) (b*b))(g:Two (a*a) ((2:Int)*(b*b))):PCall P 151 [J7 a,J7 b] (.lit (.int .i64 (i64.wrap (a.sign*(a*a-2*(b*b)).sign)))):=
 j5 (.r 4 (Z3 a) (.r 6 (Z3 b) (.b 12 h1 (.b 16 h2 (.b 19 h3 (.r 23 (zcB a a c) (.r 24 (z0J (2:Int) d) (.r 27 (zcB b b e) (.r 28 (z8k 2 (b*b) f) (.r 29 (zlc (a*a) ((2:Int)*(b*b)) g) .nil)))))))))) (by kernel_rfl)
theorem ziQ(a b:Int)(d:Two a (-b)):PCall P 152 [J7 a,J7 b] (.agg [.lit (.bool (decide (a+ -b<0))),.lit (.string (bytesOf (a+ -b).natAbs))]):=
 j5 (.r 4 (J8 a) (.r 8 (J8 b) (.r 14 (zaX b) (.r 15 (zle a (-b) d) (.c (lq 2 2) .nil))))) (by kernel_rfl)
theorem z3c(a b:Int)(h:z4v a b):PCall P 151 [J7 a,J7 b] (j7 (sg2 a b)):=by
 obtain⟨n,hn,ha,hb⟩:=h
 unfold sg2 z4i
 by_cases h1:a.sign=b.sign
 · rw[if_pos (.inl h1)]
   exact zhi a b (by simp[h1])
 · by_cases h2:b.sign=0
   · rw[if_pos (.inr h2)]
     exact zhG a b (beq_false_of_ne h1) (by simp[h2])
   · rw[if_neg (by rintro(h|h)<;>contradiction)]
     by_cases h3:a.sign=0
     · rw[if_pos h3]
       exact ziM a b (beq_false_of_ne h1) (beq_false_of_ne h2) (by simp[h3])
     · rw[if_neg h3]
       have:=zgl a b (beq_false_of_ne h1) (beq_false_of_ne h2) (beq_false_of_ne h3) ⟨n,by omega,ha,ha⟩ (by decide) ⟨n,by omega,hb,hb⟩ ⟨n+n+1,by omega,(show By 1 2 by unfold By;decide).mono (by omega),(hb.mul hb).mono (by omega)⟩ ⟨n+n+1,by omega,(ha.mul ha).mono (by omega),(hb.mul hb).two⟩
       have s1:=z2G a
       have s2:=z2G (a*a-2*(b*b))
       have hw:i64.wrap (a.sign*(a*a-2*(b*b)).sign)=a.sign*(a*a-2*(b*b)).sign:=by
        generalize (a*a-2*(b*b)).sign=t at*
        have:a.sign= -1∨a.sign=1:=by omega
        rcases this with h|h<;>rw[h]<;>exact w64 (by omega)
       rw[hw]at this
       exact this
theorem zfO(a b:Int)(h:Two a b):PCall P 152 [J7 a,J7 b] (J7 (a-b)):=by
 obtain⟨n,hn,ha,hb⟩:=h
 have:=ziQ a b ⟨n,hn,ha,hb.neg⟩
 rw[←Int.sub_eq_add_neg]at this
 exact this
theorem z93(a b:Int)(h:Two a b):PCall P 130 [c4C a b 0 0,c4C a b 0 0] (c4C (a*a+2*(b*b)) (2*(a*b)) 0 0):=by
 obtain⟨n,hn,ha,hb⟩:=h
 have z:By n 0:=by unfold By;exact Nat.pow_pos (by decide)
 have:=zfe a b 0 0 a b 0 0 ⟨n,hn,⟨ha,hb,z,z⟩,ha,hb,z,z⟩
 rw[show a*a+2*b*b+3*0*0+6*0*0=a*a+2*(b*b) by grind,show a*b+b*a+3*0*0+3*0*0=2*(a*b) by grind,show a*0+0*a+2*b*0+2*0*b=0 by grind,show a*0+0*a+b*0+0*b=0 by grind]at this
 exact this
theorem zkK(x:K)(h1:(sg2 x.c0 x.c1==sg2 x.c2 x.c3)=true)(a:x.sz≤1000000)(d:z4v x.c0 x.c1)(e:z4v x.c2 x.c3):PCall P 71 [Y6 x] (.lit (.int .i64 (sg2 x.c0 x.c1))):=
 j5 (.r 3 (z8U x a) (.c (bq 0 4) (.c (bq 1 4) (.r 12 (z3c x.c0 x.c1 d) (.c (bq 2 4) (.c (bq 3 4) (.r 19 (z3c x.c2 x.c3 e) (.b 25 h1 .nil)))))))) (by kernel_rfl)
theorem zmc(x:K)(h1:(sg2 x.c0 x.c1==sg2 x.c2 x.c3)=false)(h2:(sg2 x.c2 x.c3==0)=true)(a:x.sz≤1000000)(d:z4v x.c0 x.c1)(e:z4v x.c2 x.c3):PCall P 71 [Y6 x] (.lit (.int .i64 (sg2 x.c0 x.c1))):=
 j5 (.r 3 (z8U x a) (.c (bq 0 4) (.c (bq 1 4) (.r 12 (z3c x.c0 x.c1 d) (.c (bq 2 4) (.c (bq 3 4) (.r 19 (z3c x.c2 x.c3 e) (.b 25 h1 (.b 29 h2 .nil))))))))) (by kernel_rfl)
theorem zm0(x:K)(h1:(sg2 x.c0 x.c1==sg2 x.c2 x.c3)=false)(h2:(sg2 x.c2 x.c3==0)=false)(h3:(sg2 x.c0 x.c1==0)=true)(a:x.sz≤1000000)(d:z4v x.c0 x.c1)(e:z4v x.c2 x.c3):PCall P 71 [Y6 x] (.lit (.int .i64 (sg2 x.c2 x.c3))):=
 j5 (.r 3 (z8U x a) (.c (bq 0 4) (.c (bq 1 4) (.r 12 (z3c x.c0 x.c1 d) (.c (bq 2 4) (.c (bq 3 4) (.r 19 (z3c x.c2 x.c3 e) (.b 25 h1 (.b 29 h2 (.b 32 h3 .nil)))))))))) (by kernel_rfl)
theorem zjN(x:K)(h1:(sg2 x.c0 x.c1==sg2 x.c2 x.c3)=false)(h2:(sg2 x.c2 x.c3==0)=false)(h3:(sg2 x.c0 x.c1==0)=false)(a:x.sz≤1000000)(d:z4v x.c0 x.c1)(e:z4v x.c2 x.c3)(f:Two x.c0 x.c1)(g:Two x.c2 x.c3)(i:(-9223372036854775808:Int)≤3∧(3:Int)≤9223372036854775807)(j:Two (3:Int) (x.c2*x.c2+2*(x.c3*x.c3)))(k:Two (x.c0*x.c0+2*(x.c1*x.c1)) ((3:Int)*(x.c2*x.c2+2*(x.c3*x.c3))))(l:Two (3:Int) ((2:Int)*(x.c2*x.c3)))(m:Two ((2:Int)*(x.c0*x.c1)) ((3:Int)*((2:Int)*(x.c2*x.c3))))(n:z4v (x.c0*x.c0+2*(x.c1*x.c1)-3*(x.c2*x.c2+2*(x.c3*x.c3))) ((2:Int)*(x.c0*x.c1)-3*((2:Int)*(x.c2*x.c3)))):PCall P 71 [Y6 x] (.lit (.int .i64 (i64.wrap (sg2 x.c0 x.c1*sg2 (x.c0*x.c0+2*(x.c1*x.c1)-3*(x.c2*x.c2+2*(x.c3*x.c3))) ((2:Int)*(x.c0*x.c1)-3*((2:Int)*(x.c2*x.c3))))))):=
 j5 (.r 3 (z8U x a) (.c (bq 0 4) (.c (bq 1 4) (.r 12 (z3c x.c0 x.c1 d) (.c (bq 2 4) (.c (bq 3 4) (.r 19 (z3c x.c2 x.c3 e) (.b 25 h1 (.b 29 h2 (.b 32 h3 (.c (bq 0 4) (.c (bq 1 4) (.c (bq 0 4) (.c (bq 1 4) (.r 47 (z93 x.c0 x.c1 f) (.c (lq 8 8) (.c (bq 2 4) (.c (bq 3 4) (.c (bq 2 4) (.c (bq 3 4) (.r 64 (z93 x.c2 x.c3 g) (.c (lq 8 8) (.r 67 (z0J (3:Int) i) (.c (lq 2 2) (.c (bq 0 4) (.c (bq 0 4) (.r 76 (z8k 3 (x.c2*x.c2+2*(x.c3*x.c3)) j) (.r 77 (zfO (x.c0*x.c0+2*(x.c1*x.c1)) ((3:Int)*(x.c2*x.c2+2*(x.c3*x.c3))) k) (.c (bq 1 4) (.c (bq 1 4) (.r 83 (z8k 3 ((2:Int)*(x.c2*x.c3)) l) (.r 84 (zfO ((2:Int)*(x.c0*x.c1)) ((3:Int)*((2:Int)*(x.c2*x.c3))) m) (.r 85 (z3c (x.c0*x.c0+2*(x.c1*x.c1)-3*(x.c2*x.c2+2*(x.c3*x.c3))) ((2:Int)*(x.c0*x.c1)-3*((2:Int)*(x.c2*x.c3))) n) .nil))))))))))))))))))))))))))))))))) (by kernel_rfl)
theorem zhY(x:RN)(g:x.ok=false)(a:RN.raw 1000000 x=true):PCall P 71 [x.c] (.lit (.int .i64 0)):=
 j5 (.r 3 ((zjV x a).eqB g) .nil) (by kernel_rfl)
theorem zis(x:K)(hx:x.sz≤1000000):PCall P 71 [Y6 x] (j7 (K.sgn x)):=by
 obtain⟨x0,x1,x2,x3,_⟩:=By.of_sz hx
 have t01:z4v x.c0 x.c1:=⟨_,by decide,x0,x1⟩
 have t23:z4v x.c2 x.c3:=⟨_,by decide,x2,x3⟩
 have b1:=z8P x.c0 x.c1
 rw[←zc6]
 unfold znh
 by_cases h1:sg2 x.c0 x.c1=sg2 x.c2 x.c3
 · rw[z2t (c':=0) (.inl h1)]
   unfold z4i
   rw[if_pos (.inl h1)]
   exact zkK x (by simp[h1]) hx t01 t23
 · by_cases h2:sg2 x.c2 x.c3=0
   · unfold z4i
     rw[if_pos (.inr h2)]
     exact zmc x (beq_false_of_ne h1) (by simp[h2]) hx t01 t23
   · by_cases h3:sg2 x.c0 x.c1=0
     · unfold z4i
       rw[if_neg (fun h=>h.elim h1 h2),if_pos h3]
       exact zm0 x (beq_false_of_ne h1) (beq_false_of_ne h2) (by simp[h3]) hx t01 t23
     · unfold z4i
       rw[if_neg (fun h=>h.elim h1 h2),if_neg h3]
       obtain⟨N,hN,e⟩: ∃N,N=1000000∧x.sz≤N:=⟨_,rfl,hx⟩
       obtain⟨y0,y1,y2,y3,_⟩:=By.of_sz e
       have k3: ∀{n:Nat},1≤n→By n 3:=fun h=>(show By 1 3 by unfold By;decide).mono h
       have u1:=((y0.mul y0).mono (Nat.le_succ _)).add (y1.mul y1).two
       have u2:=((y2.mul y2).mono (Nat.le_succ _)).add (y3.mul y3).two
       have u3:=u2.k (k:=3) (by decide)
       have v1:=(y0.mul y1).two
       have v2:=(y2.mul y3).two
       have v3:=v2.k (k:=3) (by decide)
       have w1:=(u1.mono (Nat.le_succ _)).sub u3
       have w2:=(v1.mono (Nat.le_succ _)).sub v3
       have h:=zjN x (beq_false_of_ne h1) (beq_false_of_ne h2) (beq_false_of_ne h3) hx t01 t23 ⟨N,by omega,y0,y1⟩ ⟨N,by omega,y2,y3⟩ (by decide) ⟨_,by omega,k3 (by omega),u2⟩ ⟨_,by omega,u1.mono (Nat.le_succ _),u3⟩
        ⟨_,by omega,k3 (by omega),v2⟩ ⟨_,by omega,v1.mono (Nat.le_succ _),v3⟩ ⟨_,by omega,w1,w2.mono (by omega)⟩
       rw[show(1:Int)*(x.c0*x.c0)+2*(x.c1*x.c1)-(3*(x.c2*x.c2)+6*(x.c3*x.c3))=x.c0*x.c0+2*(x.c1*x.c1)-3*(x.c2*x.c2+2*(x.c3*x.c3)) by grind,
        show 2*(x.c0*x.c1)-6*(x.c2*x.c3)=2*(x.c0*x.c1)-3*(2*(x.c2*x.c3)) by grind]
       have s2:=z8P (x.c0*x.c0+2*(x.c1*x.c1)-3*(x.c2*x.c2+2*(x.c3*x.c3))) (2*(x.c0*x.c1)-3*(2*(x.c2*x.c3)))
       generalize sg2 (x.c0*x.c0+2*(x.c1*x.c1)-3*(x.c2*x.c2+2*(x.c3*x.c3))) (2*(x.c0*x.c1)-3*(2*(x.c2*x.c3)))=t at*
       have hw:i64.wrap (sg2 x.c0 x.c1*t)=sg2 x.c0 x.c1*t:=by
        have:sg2 x.c0 x.c1= -1∨sg2 x.c0 x.c1=1:=by omega
        rcases this with h|h<;>rw[h]<;>exact w64 (by omega)
       rw[hw]at h
       exact h
theorem zgj(x:RN)(hx:x.raw 1000000=true):PCall P 71 [x.c] (j7 (z9e x)):=by
 unfold z9e
 cases ex:toO x with
 |none=>exact zhY x (z0y ex) hx
 |some k=>
  have a:=z1Y ex hx
  rw[zf0 (z1z ex).2]
  exact zis k a
noncomputable def kV(a b c:K):VN:=⟨kN a,kN b,kN c⟩
theorem zd1(a b c a' b' c':K):z4q (kV a b c) (kV a' b' c')=kN (a*a'+b*b'+c*c'):=by
 unfold z4q kV
 rw[z89,z89,z1p];rfl
theorem zhy(a b c a' b' c':K):z0k (kV a b c) (kV a' b' c')=kV (a+a') (b+b') (c+c'):=by
 unfold z0k kV
 rw[z89,z89,z1p,z1p,z1p];rfl
theorem zbC(a b c k:K):J6 (kV a b c) (kN k)=kV (a*k) (b*k) (c*k):=zes a b c k
theorem z2l{v:VN}{k:RN}{n:Nat}(hv:v.raw n=true)(hk:k.raw n=true):(J6 v k).raw (n+n+1)=true:=by
 refine z6f ?_
 have hk':=z1k hk
 cases ev:toV v with
 |none=>exact Nat.zero_le _
 |some a=>
  cases ew:toO k with
  |none=>exact Nat.zero_le _
  |some b=>
   rw[ew]at hk'
   have hk':b.sz≤n:=hk'
   obtain⟨x,y,z⟩:=z1w ev hv
   have m1:=K.sz_mul a.x b
   have m2:=K.sz_mul a.y b
   have m3:=K.sz_mul a.z b
   show max (a.x*b).sz (max (a.y*b).sz (a.z*b).sz)≤n+n+1
   omega
theorem zbY{v w:VN}{n:Nat}(hv:v.raw n=true)(hw:w.raw n=true):(z4q v w).raw (6*n+5)=true:=by
 refine z1n ?_
 cases ev:toV v with
 |none=>exact Nat.zero_le _
 |some a=>
  cases ew:toV w with
  |none=>exact Nat.zero_le _
  |some b=>
   obtain⟨x,y,z⟩:=z1w ev hv
   obtain⟨x',y',z'⟩:=z1w ew hw
   have m1:=K.sz_mul a.x b.x
   have m2:=K.sz_mul a.y b.y
   have m3:=K.sz_mul a.z b.z
   have m4:=K.sz_add (a.x*b.x) (a.y*b.y)
   have m5:=K.sz_add (a.x*b.x+a.y*b.y) (a.z*b.z)
   show(a.x*b.x+a.y*b.y+a.z*b.z).sz≤6*n+5
   omega
theorem zcI(v w:VN)(hv:v.raw 10000=true)(hw:w.raw 10000=true):PCall P 149 [v.c,w.c] (z4q v w).c:=by
 have hm:(z4g v w).raw 100000=true:=by
  refine z6f ?_
  cases ev:toV v with
  |none=>exact Nat.zero_le _
  |some a=>
   cases ew:toV w with
   |none=>exact Nat.zero_le _
   |some b=>
    obtain⟨x,y,z⟩:=z1w ev hv
    obtain⟨x',y',z'⟩:=z1w ew hw
    have m1:=K.sz_mul a.x b.x
    have m2:=K.sz_mul a.y b.y
    have m3:=K.sz_mul a.z b.z
    show max (a.x*b.x).sz (max (a.y*b.y).sz (a.z*b.z).sz)≤100000
    omega
 obtain⟨h1,h2,h3⟩:=z0c.1 hm
 have h:=zjr v w (VN.raw_mono hv (by decide)) (VN.raw_mono hw (by decide)) (RN.raw_mono h1 (by decide)) (RN.raw_mono h2 (by decide)) (RN.raw_mono (zik h1 h2) (by decide)) (RN.raw_mono h3 (by decide))
 rwa[zaq]at h
theorem zlp(u v w:VN)(a:VN.raw 1000 v=true)(d:VN.raw 1000 w=true)(e:VN.raw 10000 u=true)(f:VN.raw 10000 (z3n v w)=true):PCall P 175 [u.c,v.c,w.c] (RN.c (z4q u (z3n v w))):=
 j5 (.r 7 (zfq v w a d) (.r 8 (zcI u (z3n v w) e f) (.c (lq 10 10) .nil))) (by kernel_rfl)
noncomputable def Y3(u v w:VN):RN:=z4q u (z3n v w)
theorem zmZ(u v w:VN)(hu:u.raw 1000=true)(hv:v.raw 1000=true)(hw:w.raw 1000=true):PCall P 175 [u.c,v.c,w.c] (Y3 u v w).c:=
 zlp u v w hv hw (VN.raw_mono hu (by decide)) (VN.raw_mono (z9Y hv hw) (by decide))
structure Q4 where
 a:Int
 b:Int
 c:Int
 d:Int
namespace Q4
def mul(x y:Q4):Q4:=⟨x.a*y.a+2*x.b*y.b+3*x.c*y.c+6*x.d*y.d,x.a*y.b+x.b*y.a+3*x.c*y.d+3*x.d*y.c,x.a*y.c+x.c*y.a+2*x.b*y.d+2*x.d*y.b,x.a*y.d+x.d*y.a+x.b*y.c+x.c*y.b⟩
def Sm(n:Nat)(x:Q4):Prop:=By4 n x.a x.b x.c x.d
end Q4
theorem Q4.Sm.mono{n m:Nat}{x:Q4}(h:Q4.Sm n x)(k:n≤m):Q4.Sm m x:=⟨h.1.mono k,h.2.1.mono k,h.2.2.1.mono k,h.2.2.2.mono k⟩
theorem Q4.Sm.mul{n m:Nat}{x y:Q4}(h:Q4.Sm n x)(k:Q4.Sm m y):Q4.Sm (n+m+4) (Q4.mul x y):=by
 obtain⟨h0,h1,h2,h3⟩:=h
 obtain⟨k0,k1,k2,k3⟩:=k
 have p: ∀{a b:Int},By n a→By m b→By (n+m+1) (a*b):=fun u v=>(u.mul v).mono (by omega)
 have q: ∀{a b:Int} (f:Int),-100≤f∧f≤100→By n a→By m b→By (n+m+1) (f*a*b):=fun f hf u v=>by
  have:=(u.mul v).k hf
  rwa[←Int.mul_assoc]at this
 have s: ∀{a b c d:Int},By (n+m+1) a→By (n+m+1) b→By (n+m+1) c→By (n+m+1) d→By (n+m+4) (a+b+c+d):=fun a b c d=>
  ((a.add b).add (c.mono (by omega))).add (d.mono (by omega))
 exact⟨s (p h0 k0) (q 2 (by decide) h1 k1) (q 3 (by decide) h2 k2) (q 6 (by decide) h3 k3),s (p h0 k1) (p h1 k0) (q 3 (by decide) h2 k3) (q 3 (by decide) h3 k2),
  s (p h0 k2) (p h2 k0) (q 2 (by decide) h1 k3) (q 2 (by decide) h3 k1),s (p h0 k3) (p h3 k0) (p h1 k2) (p h2 k1)⟩
def zot(z:Int):Int×Bool:=if-9223372036854775808≤z∧z<9223372036854775808 then(z,true)else(0,false)
theorem i64_in{z:Int}(h: -9223372036854775808≤z∧z<9223372036854775808):zot z=(z,true):=if_pos h
theorem zjg(i:Int){n:Nat}(h:1≤n):(kN (z6y i)).raw n=true:=z5l (Nat.le_trans (zfJ i) h)
theorem ziu(i:Int){n:Nat}(h:1≤n):(kN (zae i)).raw n=true:=z5l (Nat.le_trans (zfX i) h)
theorem zos{a b:Int}(h:a≠b):(a==b)=false:=by
 cases e:a==b
 · rfl
 · exact absurd (beq_iff_eq.1 e) h
theorem zkf(l:List (Int×Int))(hl:l.length<2^30):PCall P 181 [rdV l,.lit (.func (.func 182) #[] #[])] (.lit (.bool (!l.all rdP))):=
 (zmP l hl).eq (by rw[zcz])
noncomputable def X0(i:Int):VN:=⟨oN 1,kN (z6y i),kN (zae i)⟩
theorem zda(i:Int):PCall P 143 [j7 i] (X0 i).c:=zkE i (by decide)
def vnL(v:VN):List CV:=v.x.l++(v.y.l++v.z.l)
def vnM(v:VN):List MV:=own (vnL v)
theorem zmN(l:List (Int×Int))(h1:decide ((↑l.length:Int)≤48)=true)(h2:(!l.all rdP)=true)(a:l.length<2^30):PCall P 117 [rdV l] (.lit (.bool false)):=
 j5 (.b 4 h1 (.r 6 ((zkf l a).eqB h2) .nil)) (by kernel_rfl)
theorem zkk(l:List (Int×Int))(h1:decide ((↑l.length:Int)≤48)=true)(h2:(!l.all rdP)=false)(a:l.length<2^30):PCall P 117 [rdV l] (.lit (.bool true)):=
 j5 (.b 4 h1 (.r 6 ((zkf l a).eqB h2) .nil)) (by kernel_rfl)
theorem zmS(l:List (Int×Int))(h1:decide ((↑l.length:Int)≤48)=false):PCall P 117 [rdV l] (.lit (.bool false)):=
 j5 (.b 4 h1 .nil) (by kernel_rfl)
theorem z4N(l:List (Int×Int))(hl:l.length<2^30):PCall P 117 [rdV l] (.lit (.bool (z4j l))):=by
 have e:decide ((l.length:Int)≤48)=decide (l.length≤48):=by rw[decide_eq_decide];omega
 unfold z4j
 rw[←e]
 cases h1:decide ((l.length:Int)≤48)
 · exact zmS l h1
 · cases h2:l.all rdP
   · exact(zmN l h1 (by rw[h2];rfl) hl).eq (by rw[show(l.all fun x=>decide (-10000≤x.2∧x.2≤10000))=false from h2];rfl)
   · exact(zkk l h1 (by rw[h2];rfl) hl).eq (by rw[show(l.all fun x=>decide (-10000≤x.2∧x.2≤10000))=true from h2];rfl)
theorem z8v(i:Int):(X0 i).raw 1=true:=z0c.2 ⟨zgV,zjg i (by decide),ziu i (by decide)⟩
theorem zfR(l:List (Int×Int))(m:VN)(g:z4j l=true)(g2:m.ok=true)(a:l.length<2^30)(d:VN.raw 1000000 m=true){R:CV→Prop}(hR:Ok P 62 (loopHead P 62 0) ⟨J3 37 [(3,.ptr 0 0),(6,.cv (CV.lit (Value.slice none 0 0))),(17,.cv (.lst l.length (flat rdL l))),(18,.cv (.lit (.int .i64 (↑l.length:Int)))),(19,.cv (.lit (.int .i64 0)))],[some (vnM m)]⟩ (.of R)):W5 P 62 [rdV l,m.c] R:=
 Y2 (keep:=[3,6,17,18,19]) (σ:=[0]) (.r 4 ((z4N l a).eqB g) (.r 8 ((zed m d).eqB g2) (.o 16 .stop .nil))) (by kernel_rfl) rfl hR (.cons (CvL.map_cv _) .nil)
theorem zhU(l:List (Int×Int))(m:VN)(g:z4j l=false)(a:l.length<2^30):PCall P 62 [rdV l,m.c] (.tup [CV.lit (Value.slice none 0 0),.lit (.int .i64 1)]):=
 j5 (.r 4 ((z4N l a).eqB g) .nil) (by kernel_rfl)
theorem zhZ(l:List (Int×Int))(m:VN)(g:z4j l=true)(g2:m.ok=false)(a:l.length<2^30)(d:VN.raw 1000000 m=true):PCall P 62 [rdV l,m.c] (.tup [CV.lit (Value.slice none 0 0),.lit (.int .i64 1)]):=
 j5 (.r 4 ((z4N l a).eqB g) (.r 8 ((zed m d).eqB g2) .nil)) (by kernel_rfl)
theorem zi3(l:List (Int×Int))(m:VN)(k mi mo:Int)(h1:decide (k<(↑l.length:Int))=true)(a:(-9223372036854775808:Int)≤mo∧mo≤9223372036854775807)(d:VN.raw 10000 m=true)(e:VN.raw 10000 (X0 mi)=true)(f:RN.raw 1000000 (oN mo)=true)(g:RN.raw 1000000 (z4q m (X0 mi))=true)(o1:(0:Int)≤k∧k<(↑l.length:Int))(o2:List.take 2 (List.drop (k.toNat*2) (flat rdL l))=[.lit (.int .i64 mi),.lit (.int .i64 mo)]){R:Goal}(hn:j9 R.n [0,7]=true)(hR:Ok P 62 (loopHead P 62 0) ⟨J3 37 [(3,.ptr 0 0),(6,.sl (0+1) 0 1 10),(17,.cv (.lst l.length (flat rdL l))),(18,.cv (.lit (.int .i64 (↑l.length:Int)))),(19,.cv (.lit (.int .i64 (i64.wrap (k+1)))))],[some (vnM m),some (own ((zag (oN mo) (z4q m (X0 mi)))).l)]⟩ R):Ok P 62 (loopHead P 62 0) ⟨J3 37 [(3,.ptr 0 0),(6,.cv (CV.lit (Value.slice none 0 0))),(17,.cv (rdV l)),(18,.cv (j7 (↑l.length:Int))),(19,.cv (j7 k))],[some (vnM m)]⟩ R:=
 z16 (keep:=[3,6,17,18,19]) (σ:=[0,7]) (.b 2 h1 (.c o1 (.c o2 (.c (eqn 2) (.c (lq 2 2) (.c (zdc mo a) (.c (zda mi) (.c (zcI m (X0 mi) d e) (.c (zfW (oN mo) (z4q m (X0 mi)) f g) (.c (lq 120 1099511627776) (.c (lq 1 1099511627776) (.c (show 0<1 from by decide) (.c (eqn 10) (.o 4 (.r (.agg [.lit (.int .i64 mi),.lit (.int .i64 mo)])) (.o 10 (.r (RN.c (oN mo))) (.o 14 (.r (z5d (X0 mi).x (X0 mi).y (X0 mi).z)) (.o 15 (.r (RN.c (z4q m (X0 mi)))) (.o 16 (.r (RN.c (zag (oN mo) (z4q m (X0 mi))))) (.o 22 .stop .nil))))))))))))))))))) (by kernel_rfl) rfl hn hR (.cons (CvL.map_cv _) (.cons (CvL.map_cv _) .nil))
theorem zgR(l:List (Int×Int))(m:VN)(k _mi _mo:Int)(h1:decide (k<(↑l.length:Int))=false){R:Goal}(hR:R.c (.tup [CV.lit (Value.slice none 0 0),.lit (.int .i64 0)])):Ok P 62 (loopHead P 62 0) ⟨J3 37 [(3,.ptr 0 0),(6,.cv (CV.lit (Value.slice none 0 0))),(17,.cv (rdV l)),(18,.cv (j7 (↑l.length:Int))),(19,.cv (j7 k))],[some (vnM m)]⟩ R:=
 okT (.b 2 h1 .nil) (by kernel_rfl) hR
theorem zja(l:List (Int×Int))(m:VN)(k mi mo:Int)(c:Nat)(out:List CV)(h1:decide (k<(↑l.length:Int))=true)(a:(-9223372036854775808:Int)≤mo∧mo≤9223372036854775807)(d:VN.raw 10000 m=true)(e:VN.raw 10000 (X0 mi)=true)(f:RN.raw 1000000 (oN mo)=true)(g:RN.raw 1000000 (z4q m (X0 mi))=true)(o1:(0:Int)≤k∧k<(↑l.length:Int))(o2:List.take 2 (List.drop (k.toNat*2) (flat rdL l))=[.lit (.int .i64 mi),.lit (.int .i64 mo)])(o9:(c+1)*120≤1099511627776)(o10:c+1≤1099511627776)(o11:(own out).length=c*10)(o12:z98 (own ((zag (oN mo) (z4q m (X0 mi)))).l))(o15:CvL (own out++(own ((zag (oN mo) (z4q m (X0 mi)))).l))){R:Goal}(hn:j9 R.n [0,8]=true)(hR:Ok P 62 (loopHead P 62 0) ⟨J3 37 [(3,.ptr 0 0),(6,.sl (0+1) 0 (c+1) 10),(17,.cv (.lst l.length (flat rdL l))),(18,.cv (.lit (.int .i64 (↑l.length:Int)))),(19,.cv (.lit (.int .i64 (i64.wrap (k+1)))))],[some (vnM m),some (own out++(own ((zag (oN mo) (z4q m (X0 mi)))).l))]⟩ R):Ok P 62 (loopHead P 62 0) ⟨J3 37 [(3,.ptr 0 0),(6,.sl 1 0 c 10),(17,.cv (rdV l)),(18,.cv (j7 (↑l.length:Int))),(19,.cv (j7 k))],[some (vnM m),some (own out)]⟩ R:=
 z16 (keep:=[3,6,17,18,19]) (σ:=[0,8]) (.b 2 h1 (.c o1 (.c o2 (.c (eqn 2) (.c (lq 2 2) (.c (zdc mo a) (.c (zda mi) (.c (zcI m (X0 mi) d e) (.c (zfW (oN mo) (z4q m (X0 mi)) f g) (.c o9 (.c o10 (.c o11 (.c o12 (.c (eqn 10) (.o 4 (.r (.agg [.lit (.int .i64 mi),.lit (.int .i64 mo)])) (.o 10 (.r (RN.c (oN mo))) (.o 14 (.r (z5d (X0 mi).x (X0 mi).y (X0 mi).z)) (.o 15 (.r (RN.c (z4q m (X0 mi)))) (.o 16 (.r (RN.c (zag (oN mo) (z4q m (X0 mi))))) (.o 22 .stop .nil)))))))))))))))))))) (by kernel_rfl) rfl hn hR (.cons (CvL.map_cv _) (.cons o15 .nil))
theorem zh9(l:List (Int×Int))(m:VN)(k _mi _mo:Int)(c:Nat)(out:List CV)(h1:decide (k<(↑l.length:Int))=false)(o1:List.take (c*10) (List.drop 0 (own out))=List.map MV.cv out){R:Goal}(hR:R.c (.tup [.lst c out,.lit (.int .i64 0)])):Ok P 62 (loopHead P 62 0) ⟨J3 37 [(3,.ptr 0 0),(6,.sl 1 0 c 10),(17,.cv (rdV l)),(18,.cv (j7 (↑l.length:Int))),(19,.cv (j7 k))],[some (vnM m),some (own out)]⟩ R:=
 okT (.b 2 h1 (.c o1 (.o 6 (.r (CV.lit undef) [out]) .nil))) (by kernel_rfl) hR
theorem z3H{P:Program}{f:FuncId}{args:List CV}{c:CV}(h:PCall P f args (.tup [.lit (.slice none 0 0),c])):PCall P f args (.tup [.lst 0 [],c]):=by
 intro Im w vs him hrep
 refine(h Im w vs him hrep).mono ?_
 rintro e w' ⟨y,v,Im',rfl,rfl,hv,h1,h2,h3,h4⟩
 refine⟨y,_,Im',rfl,rfl,?_,h1,h2,h3,h4⟩
 unfold CV.rep at hv ⊢
 obtain⟨ys,h5,h6⟩:=hv
 refine⟨ys,h5,?_⟩
 unfold CV.repL at h6 ⊢
 obtain⟨y0,ys0,h7,h8,h9⟩:=h6
 refine⟨y0,ys0,h7,?_,h9⟩
 unfold CV.rep at h8 ⊢
 exact⟨none,0,h8,Nat.le_refl _,.inl ⟨rfl,rfl⟩⟩
noncomputable def z5T(m:VN)(x:Int×Int):RN:=zag (oN x.2) (z4q m (X0 x.1))
noncomputable def z4e(l:List (Int×Int))(m:VN):List RN×Int:=if z4j l&&m.ok then(l.map (z5T m),0)else([],1)
theorem z71{l:List (Int×Int)}(h:z4j l=true):l.length≤48∧ ∀k (hk:k<l.length),-10000≤l[k].2∧l[k].2≤10000:=by
 unfold z4j at h
 simp only[Bool.and_eq_true,decide_eq_true_eq,List.all_eq_true]at h
 exact⟨h.1,fun k hk=>h.2 _ (List.getElem_mem hk)⟩
theorem z7s{n:Int}(h: -10000≤n∧n≤10000):(K.ofInt n).sz≤2:=K.sz_int n (by decide) (by omega)
theorem zdX(m:VN)(l:List (Int×Int)):flat RN.l (l.map (z5T m))=flat (fun x=>(z5T m x).l) l:=by
 induction l with
 |nil=>rfl
 |cons x l ih=>rw[List.map_cons,z0R,z0R,ih]
theorem z56(a b:List CV):CvL (own a++own b):=by rw[show own a++own b=own (a++b)from(z8j a b).symm];exact CvL.map_cv _
theorem zmC(l:List (Int×Int))(m:VN)(g:z4j l=true)(g2:m.ok=true)(hm:m.raw 10000=true):PCall P 62 [rdV l,m.c] (.tup [nmV (l.map (z5T m)),j7 0]):=by
 have h6:=VN.raw_mono hm (show 10000≤1000000 by decide)
 obtain⟨hl,hb⟩:=z71 g
 have hr: ∀i,(X0 i).raw 10000=true:=fun i=>VN.raw_mono (z8v i) (by decide)
 have hd: ∀i,(z4q m (X0 i)).raw 1000000=true:=fun i=>RN.raw_mono (zbY hm (hr i)) (by decide)
 cases l with
 |nil=>
  refine z3H (zfR [] m g g2 (by decide) h6 (R := (· = _)) (zgR [] m 0 0 0 rfl rfl))
 |cons x t=>
  generalize hx:x::t=l at*
  have hne:l≠[]:=by rw[←hx];exact List.cons_ne_nil _ _
  refine zfR l m g g2 (by omega) h6 (R := (· = _)) ?_
  refine z9A (s:=10) l (fun x=>(z5T m x).l) (fun _=>rfl) (fun k o=>Ok P 62 (loopHead P 62 0) (match o with
   |none=>⟨J3 37 [(3,.ptr 0 0),(6,.cv (.lit (.slice none 0 0))),(17,.cv (rdV l)),(18,.cv (j7 l.length)),(19,.cv (j7 k))],[some (vnM m)]⟩
   | some (c, out) => ⟨J3 37 [(3, .ptr 0 0), (6, .sl 1 0 c 10), (17, .cv (rdV l)), (18, .cv (j7 l.length)), (19, .cv (j7 k))], [some (vnM m), some (own out)]⟩) (.of (· = .tup [nmV (l.map (z5T m)), j7 0]))) ?_ ?_ hne ?_
  · intro k hk h
    have b:=hb k hk
    refine zi3 l m k l[k].1 l[k].2 (decide_eq_true (by omega)) (by omega) hm (hr _) (z3f (Nat.le_trans (z7s b) (by decide))) (hd _) (by omega) (z2p z3Y hk) rfl ?_
    rw[w64 (by omega)]
    exact h
  · intro k hk c out hc ho h
    have b:=hb k hk
    refine zja l m k l[k].1 l[k].2 c out (decide_eq_true (by omega)) (by omega) hm (hr _) (z3f (Nat.le_trans (z7s b) (by decide))) (hd _) (by omega) (z2p z3Y hk) (by omega) (by omega) (by simp[own,ho]) ?_ ?_ rfl ?_
    · simp[z98,MV.one,own,RN.l]
    · exact z56 _ _
    · rw[w64 (by omega),show ∀a b:List CV,own a++own b=own (a++b)from fun a b=>(z8j a b).symm]
      exact h
  · refine zh9 l m l.length 0 0 l.length (flat (fun x=>(z5T m x).l) l) (decide_eq_false (by omega)) ?_ ?_
    · rw[List.drop_zero,List.take_of_length_le (by simp[own,z2E (f:=fun x=>(z5T m x).l) (s:=10) (fun _=>rfl)])];rfl
    · show CV.tup _=CV.tup _
      unfold nmV
      rw[zdX,List.length_map]
theorem zg3(l:List (Int×Int))(m:VN)(hl:l.length<2^30)(hm:m.raw 10000=true):PCall P 62 [rdV l,m.c] (.tup [nmV (z4e l m).1,j7 (z4e l m).2]):=by
 unfold z4e
 cases g:z4j l
 · exact z3H (zhU l m g hl)
 cases g2:m.ok
 · exact z3H (zhZ l m g g2 hl (VN.raw_mono hm (by decide)))
 · exact zmC l m g g2 hm
theorem zl6(l:List (Int×Int))(m:VN)(h1:((z4e l m).2 != 0)=true)(a:l.length<2^30)(d:VN.raw 10000 m=true):PCall P 69 [rdV l,m.c] (.tup [.agg z0Z,.lit (.int .i64 (z4e l m).2)]):=
 j5 (.r 5 (zg3 l m a d) (.b 13 h1 (.c (lq 10 10) .nil))) (by kernel_rfl)
theorem zkI(l:List (Int×Int))(m:VN)(h1:((z4e l m).2 != 0)=false)(a:l.length<2^30)(d:VN.raw 10000 m=true)(e:(-9223372036854775808:Int)≤0∧(0:Int)≤9223372036854775807){R:CV→Prop}(hR:Ok P 69 (loopHead P 69 0) ⟨J3 35 [(4,.ptr 0 0),(8,.ptr (0+1) 0),(22,.cv (.lst (z4e l m).1.length (flat RN.l (z4e l m).1))),(23,.cv (.lit (.int .i64 (↑(z4e l m).1.length:Int)))),(24,.cv (.lit (.int .i64 0)))],[some [.cv (.lit (.bool false)),.cv (.lit (.string {data:= #[]})),.cv (.lit (.bool false)),.cv (.lit (.string {data:= #[]})),.cv (.lit (.bool false)),.cv (.lit (.string {data:= #[]})),.cv (.lit (.bool false)),.cv (.lit (.string {data:= #[]})),.cv (.lit (.bool false)),.cv (.lit (.string {data:= #[]}))],some (own ((oN (0:Int))).l)]⟩ (.of R)):W5 P 69 [rdV l,m.c] R:=
 Y2 (keep:=[4,8,22,23,24]) (σ:=[1,4]) (.r 5 (zg3 l m a d) (.b 13 h1 (.r 14 (zdc (0:Int) e) (.c (lq 10 10) (.o 20 .stop .nil))))) (by kernel_rfl) rfl hR (.cons (by simp[CvL]) (.cons (CvL.map_cv _) .nil))
theorem zkj(u v w:VN)(a:VN.raw 1000 u=true)(d:VN.raw 1000 v=true)(e:VN.raw 1000 w=true):PCall P 145 [.lst 3 (vnL u++(vnL v++vnL w))] (RN.c (Y3 u v w)):=
 j5 (.c (bq 0 3) (.c (bq 1 3) (.c (bq 2 3) (.r 10 (zmZ u v w a d e) (.c (lq 10 10) .nil))))) (by kernel_rfl)
theorem zig(xs:List RN)(s mx:RN)(k:Int)(h1:decide (k<(↑xs.length:Int))=true)(a d:RN.raw 1000000 mx=true)(e:RN.raw 1000000 s=true)(f:RN.raw 1000000 (zaK mx mx)=true)(o1:(0:Int)≤k∧k<(↑xs.length:Int))(o2:List.take 10 (List.drop (k.toNat*10) (flat RN.l xs))=(mx).l){R:Goal}(hn:j9 R.n [0,1]=true)(hR:Ok P 69 (loopHead P 69 0) ⟨J3 35 [(4,.ptr 0 0),(8,.ptr (0+1) 0),(22,.cv (.lst xs.length (flat RN.l xs))),(23,.cv (.lit (.int .i64 (↑xs.length:Int)))),(24,.cv (.lit (.int .i64 (i64.wrap (k+1)))))],[some (own [.lit (.bool false),.lit (.string RN.zero.s0),.lit (.bool false),.lit (.string RN.zero.s1),.lit (.bool false),.lit (.string RN.zero.s2),.lit (.bool false),.lit (.string RN.zero.s3),.lit (.bool false),.lit (.string RN.zero.s4)]),some (own ((z3s s (zaK mx mx))).l)]⟩ R):Ok P 69 (loopHead P 69 0) ⟨J3 35 [(4,.ptr 0 0),(8,.ptr 1 0),(22,.cv (nmV xs)),(23,.cv (j7 (↑xs.length:Int))),(24,.cv (j7 k))],[some (own RN.zero.l),some (own s.l)]⟩ R:=
 z16 (keep:=[4,8,22,23,24]) (σ:=[0,1]) (.b 2 h1 (.c o1 (.c o2 (.c (eqn 10) (.c (lq 10 10) (.c (zkM mx mx a d) (.c (z9B s (zaK mx mx) e f) (.c (lq 10 10) (.o 4 (.r mx.c) (.o 10 (.r (RN.c (zaK mx mx))) (.o 11 (.r (RN.c (z3s s (zaK mx mx)))) (.o 15 .stop .nil)))))))))))) (by kernel_rfl) rfl hn hR (.cons (J0 _) (.cons (CvL.map_cv _) .nil))
theorem zhV(xs:List RN)(s _mx:RN)(k:Int)(h1:decide (k<(↑xs.length:Int))=false){R:Goal}(hR:R.c (.tup [RN.c s,.lit (.int .i64 0)])):Ok P 69 (loopHead P 69 0) ⟨J3 35 [(4,.ptr 0 0),(8,.ptr 1 0),(22,.cv (nmV xs)),(23,.cv (j7 (↑xs.length:Int))),(24,.cv (j7 k))],[some (own RN.zero.l),some (own s.l)]⟩ R:=
 okT (.b 2 h1 (.c (lq 10 10) .nil)) (by kernel_rfl) hR
theorem zep{x y:RN}{a b:Nat}(hx:x.raw a=true)(hy:y.raw b=true):(z3s x y).raw (a+b+1)=true:=by
 have h1:=z1k hx
 have h2:=z1k hy
 have h3:=zbF (toO x) (toO y)
 exact z1n (by omega)
theorem zeM{x y:RN}{a b:Nat}(hx:x.raw a=true)(hy:y.raw b=true):(zag x y).raw (a+b+1)=true:=by
 have h1:=z1k hx
 have h2:=z1k hy
 have h3:=zhN (toO x) (toO y)
 exact z1n (by omega)
theorem zfI{x y:RN}{a b:Nat}(hx:x.raw a=true)(hy:y.raw b=true):(zaK x y).raw (a+b+1)=true:=by
 have h1:=z1k hx
 have h2:=z1k hy
 have h3:=ziL (toO x) (toO y)
 exact z1n (by omega)
theorem zbZ{v w:VN}{n m:Nat}(hv:v.raw n=true)(hw:w.raw m=true):(z4q v w).raw (3*(n+m+1)+2)=true:=by
 refine z1n ?_
 cases ev:toV v with
 |none=>exact Nat.zero_le _
 |some a=>
  cases ew:toV w with
  |none=>exact Nat.zero_le _
  |some b=>
   obtain⟨x,y,z⟩:=z1w ev hv
   obtain⟨x',y',z'⟩:=z1w ew hw
   have m1:=K.sz_mul a.x b.x
   have m2:=K.sz_mul a.y b.y
   have m3:=K.sz_mul a.z b.z
   have m4:=K.sz_add (a.x*b.x) (a.y*b.y)
   have m5:=K.sz_add (a.x*b.x+a.y*b.y) (a.z*b.z)
   show(a.x*b.x+a.y*b.y+a.z*b.z).sz≤_
   omega
theorem zjo{m:VN}{n:Nat}(hm:m.raw n=true){x:Int×Int}(hx: -10000≤x.2∧x.2≤10000):(z5T m x).raw (3*n+11)=true:=
 RN.raw_mono (zeM (z3f (z7s hx)) (zbZ hm (z8v x.1))) (by omega)
noncomputable def zb0:RN→List RN→RN
 |s,[]=>s
 |s,x::l=>zb0 (z3s s (zaK x x)) l
noncomputable def z9s(l:List (Int×Int))(m:VN):RN×Int:=if(z4e l m).2=0 then(zb0 (oN 0) (z4e l m).1,0)else(.zero,(z4e l m).2)
theorem zeT (n : Nat) (hn : n ≤ 30000) {R : Goal} (hR0 : j9 R.n [0, 1] = true) (xs : List RN) (hx : ∀ k (hk : k < xs.length), xs[k].raw n = true) (hl : xs.length ≤ 12) (d : Nat) : ∀ (k : Nat) (s : RN), k + d = xs.length → s.raw (k * (2 * n + 2) + 1) = true → R.c (.tup [(zb0 s (xs.drop k)).c, j7 0]) →
    Ok P 69 (loopHead P 69 0) ⟨J3 35 [(4,.ptr 0 0),(8,.ptr 1 0),(22,.cv (nmV xs)),(23,.cv (j7 xs.length)),(24,.cv (j7 k))],[some (own RN.zero.l),some (own s.l)]⟩ R:=by
 induction d with
 |zero=>
  intro k s hk _ hR
  rw[List.drop_eq_nil_of_le (by omega)]at hR
  exact zhV xs s .zero k (decide_eq_false (by omega)) hR
 |succ d ih=>
  intro k s hk hs hR
  have hlt:k<xs.length:=by omega
  rw[List.drop_eq_getElem_cons hlt]at hR
  have hm:k*(2*n+2)≤11*(2*n+2):=Nat.mul_le_mul_right _ (by omega)
  have x1:=hx k hlt
  have q:=zfI x1 x1
  refine zig xs s xs[k] k (decide_eq_true (by omega)) (RN.raw_mono x1 (by omega)) (RN.raw_mono x1 (by omega)) (RN.raw_mono hs (by omega)) (RN.raw_mono q (by omega)) (by omega) (z2p zgO hlt) hR0 ?_
  rw[w64 (by omega)]
  refine ih (k+1) _ (by omega) (RN.raw_mono (zep hs q) ?_) hR
  rw[Nat.add_mul];omega
theorem zew{l:List (Int×Int)}{m:VN}{n:Nat}(hm:m.raw n=true): ∀k (hk:k<(z4e l m).1.length),(z4e l m).1[k].raw (3*n+11)=true:=by
 cases g:z4j l
 · have e:z4e l m=([],1):=by unfold z4e;rw[g];rfl
   intro k hk
   rw[e]at hk
   exact absurd hk (by simp)
 cases g2:m.ok
 · have e:z4e l m=([],1):=by unfold z4e;rw[g,g2];rfl
   intro k hk
   rw[e]at hk
   exact absurd hk (by simp)
 · have e:z4e l m=(l.map (z5T m),0):=by unfold z4e;rw[g,g2];rfl
   rw[e]
   intro k hk
   have hk':k<l.length:=by simpa using hk
   have:(l.map (z5T m))[k]=z5T m l[k]:=List.getElem_map _
   show(l.map (z5T m))[k].raw _=true
   rw[this]
   exact zjo hm ((z71 g).2 k hk')
theorem zdm(l:List (Int×Int))(m:VN):(z4e l m).1.length≤l.length:=by
 unfold z4e
 split
 · simp
 · simp
theorem zfm(l:List (Int×Int))(m:VN)(hl:l.length≤12)(hm:m.raw 8000=true):PCall P 69 [rdV l,m.c] (.tup [(z9s l m).1.c,j7 (z9s l m).2]):=by
 have hm':=VN.raw_mono hm (show 8000≤10000 by decide)
 unfold z9s
 by_cases h:(z4e l m).2=0
 · rw[if_pos h]
   refine V0 (zkI l m (bne_self_iff h) (by omega) hm' (by decide) ?_)
   exact zeT (3*8000+11) (by decide) rfl _ (zew hm) (Nat.le_trans (zdm l m) hl) (z4e l m).1.length 0 (oN 0) (by omega) (z3f (by decide+kernel)) rfl
 · rw[if_neg h]
   exact zl6 l m (bne_iff_ne.2 h) (by omega) hm'
 where bne_self_iff {a:Int} (h:a=0):(a != 0)=false:=by rw[h];rfl
def v3L(a b c:VN):List CV:=vnL a++(vnL b++vnL c)
def v3M(a b c:VN):List MV:=own (v3L a b c)
end Go.Fw
