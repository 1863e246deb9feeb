/- A part of the proof that the law returns true for every input: an executor for the model's code, and what functions of the program compute. -/
import Derived.Test.YtcafjpldfnegiaaGreatDoorB11
import Derived.Test.YtcafjpldfnegiaaGreatDoorB15
import Derived.Test.YtcafjpldfnegiaaGreatDoorB39
import Derived.Test.YtcafjpldfnegiaaGreatDoorB40
import Derived.Test.YtcafjpldfnegiaaGreatDoorB41
import Derived.Test.YtcafjpldfnegiaaGreatDoorB44
import Derived.KernelRfl
open Go IntKind
namespace Go.Fw
set_option maxRecDepth 100000
theorem rtwo_p1(a b:Int)(h1:(a.sign==b.sign)=true):PCall P 151 [intC a,intC b] (.lit (.int .i64 a.sign)):=
 pcallT (.r 4 (RSign_spec (a)) (.r 6 (RSign_spec (b)) (.b 12 h1 .nil))) (by kernel_rfl)
theorem rtwo_p2(a b:Int)(h1:(a.sign==b.sign)=false)(h2:(b.sign==0)=true):PCall P 151 [intC a,intC b] (.lit (.int .i64 a.sign)):=
 pcallT (.r 4 (RSign_spec (a)) (.r 6 (RSign_spec (b)) (.b 12 h1 (.b 16 h2 .nil)))) (by kernel_rfl)
theorem rtwo_p3(a b:Int)(h1:(a.sign==b.sign)=false)(h2:(b.sign==0)=false)(h3:(a.sign==0)=true):PCall P 151 [intC a,intC b] (.lit (.int .i64 b.sign)):=
 pcallT (.r 4 (RSign_spec (a)) (.r 6 (RSign_spec (b)) (.b 12 h1 (.b 16 h2 (.b 19 h3 .nil))))) (by kernel_rfl)
theorem rtwo_p4(a b:Int)(h1:(a.sign==b.sign)=false)(h2:(b.sign==0)=false)(h3:(a.sign==0)=false)(s23_0:Two a a)(s24_0:(-9223372036854775808:Int)≤2∧(2:Int)≤9223372036854775807)(s27_0:Two b b)(s28_0:Two (2:Int) (b*b))(s29_0:Two (a*a) ((2:Int)*(b*b))):PCall P 151 [intC a,intC b] (.lit (.int .i64 (i64.wrap (a.sign*(a*a-2*(b*b)).sign)))):=
 pcallT (.r 4 (RSign_spec (a)) (.r 6 (RSign_spec (b)) (.b 12 h1 (.b 16 h2 (.b 19 h3 (.r 23 (RMul_x (a) (a) s23_0) (.r 24 (ROf_spec ((2:Int)) s24_0) (.r 27 (RMul_x (b) (b) s27_0) (.r 28 (RMulP_x (2) (b*b) s28_0) (.r 29 (RCmp_x (a*a) ((2:Int)*(b*b)) s29_0) .nil)))))))))) (by kernel_rfl)
theorem rsub_p1(a b:Int)(s15_0:Two a (-b)):PCall P 152 [intC a,intC b] (.agg [.lit (.bool (decide (a+ -b<0))),.lit (.string (bytesOf (a+ -b).natAbs))]):=
 pcallT (.r 4 (rValid_int (a)) (.r 8 (rValid_int (b)) (.r 14 (RNeg_spec (b)) (.r 15 (RAdd_x (a) (-b) s15_0) (.c (lq 2 2) .nil))))) (by kernel_rfl)
end Go.Fw
open Go
namespace Go.Fw
set_option maxRecDepth 100000
theorem RTwo_x(a b:Int)(h:Two' a b):PCall P 151 [intC a,intC b] (ci64 (sg2 a b)):=by
 obtain⟨n,hn,ha,hb⟩:=h
 unfold sg2 mixS
 by_cases h1:a.sign=b.sign
 · rw[if_pos (.inl h1)]
   exact rtwo_p1 a b (by simp[h1])
 · by_cases h2:b.sign=0
   · rw[if_pos (.inr h2)]
     exact rtwo_p2 a b (beq_false_of_ne h1) (by simp[h2])
   · rw[if_neg (by rintro(h|h)<;>contradiction)]
     by_cases h3:a.sign=0
     · rw[if_pos h3]
       exact rtwo_p3 a b (beq_false_of_ne h1) (beq_false_of_ne h2) (by simp[h3])
     · rw[if_neg h3]
       have:=rtwo_p4 a b (beq_false_of_ne h1) (beq_false_of_ne h2) (beq_false_of_ne h3) ⟨n,by omega,ha,ha⟩ (by decide) ⟨n,by omega,hb,hb⟩ ⟨n+n+1,by omega,(show By 1 2 by unfold By;decide).mono (by omega),(hb.mul hb).mono (by omega)⟩ ⟨n+n+1,by omega,(ha.mul ha).mono (by omega),(hb.mul hb).two⟩
       have s1:=sign_bd a
       have s2:=sign_bd (a*a-2*(b*b))
       have hw:IntKind.i64.wrap (a.sign*(a*a-2*(b*b)).sign)=a.sign*(a*a-2*(b*b)).sign:=by
        generalize (a*a-2*(b*b)).sign=t at*
        have:a.sign= -1∨a.sign=1:=by omega
        rcases this with h|h<;>rw[h]<;>exact w64 (by omega)
       rw[hw]at this
       exact this
theorem RSub_x(a b:Int)(h:Two a b):PCall P 152 [intC a,intC b] (intC (a-b)):=by
 obtain⟨n,hn,ha,hb⟩:=h
 have:=rsub_p1 a b ⟨n,hn,ha,hb.neg⟩
 rw[←Int.sub_eq_add_neg]at this
 exact this
theorem RTimes_2(a b:Int)(h:Two a b):PCall P 130 [c4C a b 0 0,c4C a b 0 0] (c4C (a*a+2*(b*b)) (2*(a*b)) 0 0):=by
 obtain⟨n,hn,ha,hb⟩:=h
 have z:By n 0:=by unfold By;exact Nat.pow_pos (by decide)
 have:=RTimes_n a b 0 0 a b 0 0 ⟨n,hn,⟨ha,hb,z,z⟩,ha,hb,z,z⟩
 rw[show a*a+2*b*b+3*0*0+6*0*0=a*a+2*(b*b) by grind,show a*b+b*a+3*0*0+3*0*0=2*(a*b) by grind,show a*0+0*a+2*b*0+2*0*b=0 by grind,show a*0+0*a+b*0+0*b=0 by grind]at this
 exact this
end Go.Fw
open Go IntKind
namespace Go.Fw
set_option maxRecDepth 100000
theorem rsg_p1(x:K)(h1:(sg2 x.c0 x.c1==sg2 x.c2 x.c3)=true)(s3_0:x.sz≤1000000)(s12_0:Two' x.c0 x.c1)(s19_0:Two' x.c2 x.c3):PCall P 71 [numC x] (.lit (.int .i64 (sg2 x.c0 x.c1))):=
 pcallT (.r 3 (RVal_K (x) s3_0) (.c (bq 0 4) (.c (bq 1 4) (.r 12 (RTwo_x (x.c0) (x.c1) s12_0) (.c (bq 2 4) (.c (bq 3 4) (.r 19 (RTwo_x (x.c2) (x.c3) s19_0) (.b 25 h1 .nil)))))))) (by kernel_rfl)
theorem rsg_p2(x:K)(h1:(sg2 x.c0 x.c1==sg2 x.c2 x.c3)=false)(h2:(sg2 x.c2 x.c3==0)=true)(s3_0:x.sz≤1000000)(s12_0:Two' x.c0 x.c1)(s19_0:Two' x.c2 x.c3):PCall P 71 [numC x] (.lit (.int .i64 (sg2 x.c0 x.c1))):=
 pcallT (.r 3 (RVal_K (x) s3_0) (.c (bq 0 4) (.c (bq 1 4) (.r 12 (RTwo_x (x.c0) (x.c1) s12_0) (.c (bq 2 4) (.c (bq 3 4) (.r 19 (RTwo_x (x.c2) (x.c3) s19_0) (.b 25 h1 (.b 29 h2 .nil))))))))) (by kernel_rfl)
theorem rsg_p3(x:K)(h1:(sg2 x.c0 x.c1==sg2 x.c2 x.c3)=false)(h2:(sg2 x.c2 x.c3==0)=false)(h3:(sg2 x.c0 x.c1==0)=true)(s3_0:x.sz≤1000000)(s12_0:Two' x.c0 x.c1)(s19_0:Two' x.c2 x.c3):PCall P 71 [numC x] (.lit (.int .i64 (sg2 x.c2 x.c3))):=
 pcallT (.r 3 (RVal_K (x) s3_0) (.c (bq 0 4) (.c (bq 1 4) (.r 12 (RTwo_x (x.c0) (x.c1) s12_0) (.c (bq 2 4) (.c (bq 3 4) (.r 19 (RTwo_x (x.c2) (x.c3) s19_0) (.b 25 h1 (.b 29 h2 (.b 32 h3 .nil)))))))))) (by kernel_rfl)
theorem rsg_p4(x:K)(h1:(sg2 x.c0 x.c1==sg2 x.c2 x.c3)=false)(h2:(sg2 x.c2 x.c3==0)=false)(h3:(sg2 x.c0 x.c1==0)=false)(s3_0:x.sz≤1000000)(s12_0:Two' x.c0 x.c1)(s19_0:Two' x.c2 x.c3)(s47_0:Two x.c0 x.c1)(s64_0:Two x.c2 x.c3)(s67_0:(-9223372036854775808:Int)≤3∧(3:Int)≤9223372036854775807)(s76_0:Two (3:Int) (x.c2*x.c2+2*(x.c3*x.c3)))(s77_0:Two (x.c0*x.c0+2*(x.c1*x.c1)) ((3:Int)*(x.c2*x.c2+2*(x.c3*x.c3))))(s83_0:Two (3:Int) ((2:Int)*(x.c2*x.c3)))(s84_0:Two ((2:Int)*(x.c0*x.c1)) ((3:Int)*((2:Int)*(x.c2*x.c3))))(s85_0:Two' (x.c0*x.c0+2*(x.c1*x.c1)-3*(x.c2*x.c2+2*(x.c3*x.c3))) ((2:Int)*(x.c0*x.c1)-3*((2:Int)*(x.c2*x.c3)))):PCall P 71 [numC x] (.lit (.int .i64 (i64.wrap (sg2 x.c0 x.c1*sg2 (x.c0*x.c0+2*(x.c1*x.c1)-3*(x.c2*x.c2+2*(x.c3*x.c3))) ((2:Int)*(x.c0*x.c1)-3*((2:Int)*(x.c2*x.c3))))))):=
 pcallT (.r 3 (RVal_K (x) s3_0) (.c (bq 0 4) (.c (bq 1 4) (.r 12 (RTwo_x (x.c0) (x.c1) s12_0) (.c (bq 2 4) (.c (bq 3 4) (.r 19 (RTwo_x (x.c2) (x.c3) s19_0) (.b 25 h1 (.b 29 h2 (.b 32 h3 (.c (bq 0 4) (.c (bq 1 4) (.c (bq 0 4) (.c (bq 1 4) (.r 47 (RTimes_2 (x.c0) (x.c1) s47_0) (.c (lq 8 8) (.c (bq 2 4) (.c (bq 3 4) (.c (bq 2 4) (.c (bq 3 4) (.r 64 (RTimes_2 (x.c2) (x.c3) s64_0) (.c (lq 8 8) (.r 67 (ROf_spec ((3:Int)) s67_0) (.c (lq 2 2) (.c (bq 0 4) (.c (bq 0 4) (.r 76 (RMulP_x (3) (x.c2*x.c2+2*(x.c3*x.c3)) s76_0) (.r 77 (RSub_x (x.c0*x.c0+2*(x.c1*x.c1)) ((3:Int)*(x.c2*x.c2+2*(x.c3*x.c3))) s77_0) (.c (bq 1 4) (.c (bq 1 4) (.r 83 (RMulP_x (3) ((2:Int)*(x.c2*x.c3)) s83_0) (.r 84 (RSub_x ((2:Int)*(x.c0*x.c1)) ((3:Int)*((2:Int)*(x.c2*x.c3))) s84_0) (.r 85 (RTwo_x (x.c0*x.c0+2*(x.c1*x.c1)-3*(x.c2*x.c2+2*(x.c3*x.c3))) ((2:Int)*(x.c0*x.c1)-3*((2:Int)*(x.c2*x.c3))) s85_0) .nil))))))))))))))))))))))))))))))))) (by kernel_rfl)
theorem rsgB_p1(x:RN)(g:x.ok=false)(s3_0:RN.raw 1000000 x=true):PCall P 71 [x.c] (.lit (.int .i64 0)):=
 pcallT (.r 3 ((RVal_c (x) s3_0).eqB g) .nil) (by kernel_rfl)
end Go.Fw
open Go
namespace Go.Fw
set_option maxRecDepth 100000
theorem RSign_K(x:K)(hx:x.sz≤1000000):PCall P 71 [numC x] (ci64 (K.sgn x)):=by
 obtain⟨x0,x1,x2,x3,_⟩:=By.of_sz hx
 have t01:Two' x.c0 x.c1:=⟨_,by decide,x0,x1⟩
 have t23:Two' x.c2 x.c3:=⟨_,by decide,x2,x3⟩
 have b1:=sg2_bd x.c0 x.c1
 rw[←sgnP_eq]
 unfold sgnP
 by_cases h1:sg2 x.c0 x.c1=sg2 x.c2 x.c3
 · rw[mixS_third (c':=0) (.inl h1)]
   unfold mixS
   rw[if_pos (.inl h1)]
   exact rsg_p1 x (by simp[h1]) hx t01 t23
 · by_cases h2:sg2 x.c2 x.c3=0
   · unfold mixS
     rw[if_pos (.inr h2)]
     exact rsg_p2 x (beq_false_of_ne h1) (by simp[h2]) hx t01 t23
   · by_cases h3:sg2 x.c0 x.c1=0
     · unfold mixS
       rw[if_neg (fun h=>h.elim h1 h2),if_pos h3]
       exact rsg_p3 x (beq_false_of_ne h1) (beq_false_of_ne h2) (by simp[h3]) hx t01 t23
     · unfold mixS
       rw[if_neg (fun h=>h.elim h1 h2),if_neg h3]
       obtain⟨N,hN,e⟩: ∃N,N=1000000∧x.sz≤N:=⟨_,rfl,hx⟩
       obtain⟨y0,y1,y2,y3,_⟩:=By.of_sz e
       have k3: ∀{n:Nat},1≤n→By n 3:=fun h=>(show By 1 3 by unfold By;decide).mono h
       have u1:=((y0.mul y0).mono (Nat.le_succ _)).add (y1.mul y1).two
       have u2:=((y2.mul y2).mono (Nat.le_succ _)).add (y3.mul y3).two
       have u3:=u2.k (k:=3) (by decide)
       have v1:=(y0.mul y1).two
       have v2:=(y2.mul y3).two
       have v3:=v2.k (k:=3) (by decide)
       have w1:=(u1.mono (Nat.le_succ _)).sub u3
       have w2:=(v1.mono (Nat.le_succ _)).sub v3
       have h:=rsg_p4 x (beq_false_of_ne h1) (beq_false_of_ne h2) (beq_false_of_ne h3) hx t01 t23 ⟨N,by omega,y0,y1⟩ ⟨N,by omega,y2,y3⟩ (by decide) ⟨_,by omega,k3 (by omega),u2⟩ ⟨_,by omega,u1.mono (Nat.le_succ _),u3⟩
        ⟨_,by omega,k3 (by omega),v2⟩ ⟨_,by omega,v1.mono (Nat.le_succ _),v3⟩ ⟨_,by omega,w1,w2.mono (by omega)⟩
       rw[show(1:Int)*(x.c0*x.c0)+2*(x.c1*x.c1)-(3*(x.c2*x.c2)+6*(x.c3*x.c3))=x.c0*x.c0+2*(x.c1*x.c1)-3*(x.c2*x.c2+2*(x.c3*x.c3)) by grind,
        show 2*(x.c0*x.c1)-6*(x.c2*x.c3)=2*(x.c0*x.c1)-3*(2*(x.c2*x.c3)) by grind]
       have s2:=sg2_bd (x.c0*x.c0+2*(x.c1*x.c1)-3*(x.c2*x.c2+2*(x.c3*x.c3))) (2*(x.c0*x.c1)-3*(2*(x.c2*x.c3)))
       generalize sg2 (x.c0*x.c0+2*(x.c1*x.c1)-3*(x.c2*x.c2+2*(x.c3*x.c3))) (2*(x.c0*x.c1)-3*(2*(x.c2*x.c3)))=t at*
       have hw:IntKind.i64.wrap (sg2 x.c0 x.c1*t)=sg2 x.c0 x.c1*t:=by
        have:sg2 x.c0 x.c1= -1∨sg2 x.c0 x.c1=1:=by omega
        rcases this with h|h<;>rw[h]<;>exact w64 (by omega)
       rw[hw]at h
       exact h
theorem RSign_r(x:RN)(hx:x.raw 1000000=true):PCall P 71 [x.c] (ci64 (nSgn x)):=by
 unfold nSgn
 cases ex:toO x with
 |none=>exact rsgB_p1 x (toO_none ex) hx
 |some k=>
  have a:=raw_of ex hx
  rw[c_of (toO_l ex).2]
  exact RSign_K k a
end Go.Fw
open Go IntKind
namespace Go.Fw
set_option maxRecDepth 100000
theorem fcm_p1(x y:RN)(s5_0:RN.raw 1000000 x=true)(s5_1:RN.raw 1000000 y=true)(s6_0:RN.raw 1000000 (nSub x y)=true):PCall P 167 [x.c,y.c] (.lit (.int .i64 (nSgn (nSub x y)))):=
 pcallT (.r 5 (FSub_r (x) (y) s5_0 s5_1) (.r 6 (FSign_r (nSub x y) s6_0) .nil)) (by kernel_rfl)
theorem vo5_p1(p:PN)(h1:(p.n.ok)=true)(h2:(zV p.n)=true)(s4_0:VN.raw 1000000 p.n=true):PCall P 80 [p.c] (.lit (.bool false)):=
 pcallT (.r 4 ((V4Val (p.n) s4_0).eqB h1) (.r 8 ((V4Zero_r (p.n)).eqB h2) .nil)) (by kernel_rfl)
theorem vo5_p2(p:PN)(h1:(p.n.ok)=true)(h2:(zV p.n)=false)(h3:(p.d.ok)=true)(s4_0:VN.raw 1000000 p.n=true)(s14_0:RN.raw 1000000 p.d=true):PCall P 80 [p.c] (.lit (.bool true)):=
 pcallT (.r 4 ((V4Val (p.n) s4_0).eqB h1) (.r 8 ((V4Zero_r (p.n)).eqB h2) (.r 14 ((RVal_c (p.d) s14_0).eqB h3) .nil))) (by kernel_rfl)
theorem vo5_p3(p:PN)(h1:(p.n.ok)=true)(h2:(zV p.n)=false)(h3:(p.d.ok)=false)(s4_0:VN.raw 1000000 p.n=true)(s14_0:RN.raw 1000000 p.d=true):PCall P 80 [p.c] (.lit (.bool false)):=
 pcallT (.r 4 ((V4Val (p.n) s4_0).eqB h1) (.r 8 ((V4Zero_r (p.n)).eqB h2) (.r 14 ((RVal_c (p.d) s14_0).eqB h3) .nil))) (by kernel_rfl)
theorem vo5_p4(p:PN)(h1:(p.n.ok)=false)(s4_0:VN.raw 1000000 p.n=true):PCall P 80 [p.c] (.lit (.bool false)):=
 pcallT (.r 4 ((V4Val (p.n) s4_0).eqB h1) .nil) (by kernel_rfl)
theorem rwp_p1(p:PN)(h1:(VN.raw 10 p.n)=true)(h2:(RN.raw 10 p.d)=true):PCall P 153 [p.c,ci64 10] (.lit (.bool true)):=
 pcallT (.r 5 ((VRaw_t (p.n)).eqB h1) (.r 10 ((RRaw_t (p.d)).eqB h2) .nil)) (by kernel_rfl)
theorem rwp_p2(p:PN)(h1:(VN.raw 10 p.n)=true)(h2:(RN.raw 10 p.d)=false):PCall P 153 [p.c,ci64 10] (.lit (.bool false)):=
 pcallT (.r 5 ((VRaw_t (p.n)).eqB h1) (.r 10 ((RRaw_t (p.d)).eqB h2) .nil)) (by kernel_rfl)
theorem rwp_p3(p:PN)(h1:(VN.raw 10 p.n)=false):PCall P 153 [p.c,ci64 10] (.lit (.bool false)):=
 pcallT (.r 5 ((VRaw_t (p.n)).eqB h1) .nil) (by kernel_rfl)
end Go.Fw
open Go
namespace Go.Fw
set_option maxRecDepth 100000
noncomputable def nCmp(x y:RN):Int:=nSgn (nSub x y)
theorem FCmp_r(x y:RN)(hx:x.raw 100000=true)(hy:y.raw 100000=true):PCall P 167 [x.c,y.c] (ci64 (nCmp x y)):=
 fcm_p1 x y (RN.raw_mono hx (by decide)) (RN.raw_mono hy (by decide)) (RN.raw_mono (raw_sub hx hy) (by decide))
theorem PValR_r(p:PN)(hp:p.raw 1000000=true):PCall P 80 [p.c] (.lit (.bool p.ok)):=by
 obtain⟨hn,hd⟩:=PN.raw_iff.1 hp
 unfold PN.ok
 cases e1:p.n.ok
 · exact vo5_p4 p e1 hn
 · cases e2:zV p.n
   · cases e3:p.d.ok
     · exact vo5_p3 p e1 e2 e3 hn hd
     · exact vo5_p2 p e1 e2 e3 hn hd
   · exact vo5_p1 p e1 e2 hn
theorem PRaw_t(p:PN):PCall P 153 [p.c,ci64 10] (.lit (.bool (p.raw 10))):=by
 unfold PN.raw
 cases h1:p.n.raw 10
 · exact rwp_p3 p h1
 · cases h2:p.d.raw 10
   · exact rwp_p2 p h1 h2
   · exact rwp_p1 p h1 h2
def pl1(p:PN):CV:= .lst 1 (p.n.x.l++(p.n.y.l++(p.n.z.l++p.d.l)))
def plL(p:PN):List CV:=p.n.x.l++(p.n.y.l++(p.n.z.l++p.d.l))
def plM(p:PN):List MV:=own (plL p)
end Go.Fw
open Go IntKind
namespace Go.Fw
set_option maxRecDepth 100000
theorem few1_p1(p:PN)(h1:(PN.raw 10 p)=true):PCall P 73 [pl1 p] (.lit (.bool true)):=
 pcallT (.c (bq 0 1) (.c (lq 40 40) (.r 12 ((PRaw_t (p)).eqB h1) .nil))) (by kernel_rfl)
theorem few1_p2(p:PN)(h1:(PN.raw 10 p)=false):PCall P 73 [pl1 p] (.lit (.bool false)):=
 pcallT (.c (bq 0 1) (.c (lq 40 40) (.r 12 ((PRaw_t (p)).eqB h1) .nil))) (by kernel_rfl)
end Go.Fw
open Go
namespace Go.Fw
set_option maxRecDepth 100000
noncomputable def sideV(p:PN)(v:VN):Int:=if p.ok&&v.ok then nCmp (wDot p.n v) p.d else 0
theorem few_pl(p:PN):PCall P 73 [pl1 p] (.lit (.bool (p.raw 10))):=by
 cases h:p.raw 10
 · exact few1_p2 p h
 · exact few1_p1 p h
end Go.Fw
open Go
namespace Go.Fw
set_option maxRecDepth 100000
theorem RN.l_inj{x y:RN}(h:x.l=y.l):x=y:=by
 obtain⟨b0,s0,b1,s1,b2,s2,b3,s3,b4,s4⟩:=x
 obtain⟨c0,t0,c1,t1,c2,t2,c3,t3,c4,t4⟩:=y
 unfold RN.l at h
 simp only[List.cons.injEq,and_true,cstr,CV.lit.injEq,Value.bool.injEq,Value.string.injEq]at h
 obtain⟨rfl,h0,rfl,h1,rfl,h2,rfl,h3,rfl,h4⟩:=h
 subst h0 h1 h2 h3 h4
 rfl
theorem ok_kN{x:RN}(h:x.ok=true): ∃k,x=kN k:=by
 obtain⟨k,_,e⟩:=toO_k h
 refine⟨k,RN.l_inj ?_⟩
 rw[e,kN_eq,RN.ofK_l]
noncomputable def kV(a b c:K):VN:=⟨kN a,kN b,kN c⟩
theorem ok_kV{v:VN}(h:v.ok=true): ∃a b c,v=kV a b c:=by
 obtain⟨x,y,z⟩:=v
 have h:ok3 x y z=true:=h
 unfold ok3 at h
 simp only[Bool.and_eq_true]at h
 obtain⟨h1,h2,h3⟩:=h
 obtain⟨a,rfl⟩:=ok_kN h1
 obtain⟨b,rfl⟩:=ok_kN h2
 obtain⟨c,rfl⟩:=ok_kN h3
 exact⟨a,b,c,rfl⟩
theorem kV_ok(a b c:K):(kV a b c).ok=true:=by
 show ok3 (kN a) (kN b) (kN c)=true
 unfold ok3
 rw[kN_ok,kN_ok,kN_ok];rfl
theorem wDot_kV(a b c a' b' c':K):wDot (kV a b c) (kV a' b' c')=kN (a*a'+b*b'+c*c'):=by
 unfold wDot kV
 rw[toV_k,toV_k,kN_eq];rfl
theorem wAdd_kV(a b c a' b' c':K):wAdd (kV a b c) (kV a' b' c')=kV (a+a') (b+b') (c+c'):=by
 unfold wAdd kV
 rw[toV_k,toV_k,kN_eq,kN_eq,kN_eq];rfl
theorem wScale_kV(a b c k:K):wScale (kV a b c) (kN k)=kV (a*k) (b*k) (c*k):=wScale_k a b c k
theorem nCmp_k(a b:K):nCmp (kN a) (kN b)=K.sgn (a-b):=by unfold nCmp;rw[nSub_k,nSgn_k]
theorem and3(x y z:Bool):(x&&(y&&(z&&true)))=true↔x=true∧y=true∧z=true:=by cases x<;>cases y<;>cases z<;>simp
theorem zV_kV(a b c:K):zV (kV a b c)=true↔a=0∧b=0∧c=0:=by
 unfold zV kV
 rw[oV_x,oV_y,oV_z,oN_k]
 dsimp only
 refine(and3 (rnB (kN a) (kN (K.ofInt 0))) (rnB (kN b) (kN (K.ofInt 0))) (rnB (kN c) (kN (K.ofInt 0)))).trans ?_
 exact and_congr (rnB_k _ _) (and_congr (rnB_k _ _) (rnB_k _ _))
noncomputable def kP(a b c d:K):PN:=⟨kV a b c,kN d⟩
theorem kP_ok{a b c d:K}:(kP a b c d).ok=true↔ ¬(a=0∧b=0∧c=0):=by
 unfold PN.ok kP
 dsimp only
 rw[kV_ok,kN_ok,Bool.true_and,Bool.and_true,←zV_kV,Bool.not_eq_true',Bool.not_eq_true]
theorem ok_parts{n:VN}{d:RN}(h:(PN.mk n d).ok=true):n.ok=true∧d.ok=true:=by
 unfold PN.ok at h
 dsimp only at h
 generalize n.ok=x at*
 generalize d.ok=y at*
 generalize zV n=w at*
 revert h
 cases x<;>cases y<;>cases w<;>simp
theorem ok_kP{p:PN}(h:p.ok=true): ∃a b c d,p=kP a b c d:=by
 obtain⟨h1,h3⟩:=ok_parts (n:=p.n) (d:=p.d) h
 obtain⟨a,b,c,e⟩:=ok_kV h1
 obtain⟨k,e'⟩:=ok_kN h3
 refine⟨a,b,c,k,?_⟩
 unfold kP
 rw[←e,←e']
theorem sideV_k{a b c d x y z:K}(h: ¬(a=0∧b=0∧c=0)):sideV (kP a b c d) (kV x y z)=K.sgn (a*x+b*y+c*z-d):=by
 unfold sideV
 rw[kP_ok.2 h,kV_ok,Bool.true_and,if_pos rfl]
 unfold kP
 rw[wDot_kV,nCmp_k]
end Go.Fw
open Go
namespace Go.Fw
set_option maxRecDepth 100000
theorem pl_zero_raw(n:Nat):PN.zero.raw n=true:=by
 refine PN.raw_mono (n:=0) ?_ (Nat.zero_le _)
 kernel_rfl
theorem raw_wAdd{v w:VN}{n:Nat}(hv:v.raw n=true)(hw:w.raw n=true):(wAdd v w).raw (n+n+1)=true:=by
 refine ofV_raw ?_
 cases ev:toV v with
 |none=>exact Nat.zero_le _
 |some a=>
  cases ew:toV w with
  |none=>exact Nat.zero_le _
  |some b=>
   obtain⟨x,y,z⟩:=sz_toV ev hv
   obtain⟨x',y',z'⟩:=sz_toV ew hw
   have m1:=K.sz_add a.x b.x
   have m2:=K.sz_add a.y b.y
   have m3:=K.sz_add a.z b.z
   show max (a.x+b.x).sz (max (a.y+b.y).sz (a.z+b.z).sz)≤n+n+1
   omega
theorem raw_wScale{v:VN}{k:RN}{n:Nat}(hv:v.raw n=true)(hk:k.raw n=true):(wScale v k).raw (n+n+1)=true:=by
 refine ofV_raw ?_
 have hk':=osz_toO hk
 cases ev:toV v with
 |none=>exact Nat.zero_le _
 |some a=>
  cases ew:toO k with
  |none=>exact Nat.zero_le _
  |some b=>
   rw[ew]at hk'
   have hk':b.sz≤n:=hk'
   obtain⟨x,y,z⟩:=sz_toV ev hv
   have m1:=K.sz_mul a.x b
   have m2:=K.sz_mul a.y b
   have m3:=K.sz_mul a.z b
   show max (a.x*b).sz (max (a.y*b).sz (a.z*b).sz)≤n+n+1
   omega
theorem raw_wDotn{v w:VN}{n:Nat}(hv:v.raw n=true)(hw:w.raw n=true):(wDot v w).raw (6*n+5)=true:=by
 refine ofO_raw ?_
 cases ev:toV v with
 |none=>exact Nat.zero_le _
 |some a=>
  cases ew:toV w with
  |none=>exact Nat.zero_le _
  |some b=>
   obtain⟨x,y,z⟩:=sz_toV ev hv
   obtain⟨x',y',z'⟩:=sz_toV ew hw
   have m1:=K.sz_mul a.x b.x
   have m2:=K.sz_mul a.y b.y
   have m3:=K.sz_mul a.z b.z
   have m4:=K.sz_add (a.x*b.x) (a.y*b.y)
   have m5:=K.sz_add (a.x*b.x+a.y*b.y) (a.z*b.z)
   show(a.x*b.x+a.y*b.y+a.z*b.z).sz≤6*n+5
   omega
theorem ne_f{a b:Int}(h:a=b):(a != b)=false:=by rw[h];simp
end Go.Fw
open Go
namespace Go.Fw
set_option maxRecDepth 100000
theorem VDot_n(v w:VN)(hv:v.raw 10000=true)(hw:w.raw 10000=true):PCall P 149 [v.c,w.c] (wDot v w).c:=by
 have hm:(wMul v w).raw 100000=true:=by
  refine ofV_raw ?_
  cases ev:toV v with
  |none=>exact Nat.zero_le _
  |some a=>
   cases ew:toV w with
   |none=>exact Nat.zero_le _
   |some b=>
    obtain⟨x,y,z⟩:=sz_toV ev hv
    obtain⟨x',y',z'⟩:=sz_toV ew hw
    have m1:=K.sz_mul a.x b.x
    have m2:=K.sz_mul a.y b.y
    have m3:=K.sz_mul a.z b.z
    show max (a.x*b.x).sz (max (a.y*b.y).sz (a.z*b.z).sz)≤100000
    omega
 obtain⟨h1,h2,h3⟩:=raw3_iff.1 hm
 have h:=veDt_p1 v w (VN.raw_mono hv (by decide)) (VN.raw_mono hw (by decide)) (RN.raw_mono h1 (by decide)) (RN.raw_mono h2 (by decide)) (RN.raw_mono (raw_add h1 h2) (by decide)) (RN.raw_mono h3 (by decide))
 rwa[wDot_parts]at h
def pl3(a b c:PN):CV:= .lst 3 (a.n.x.l++(a.n.y.l++(a.n.z.l++(a.d.l++(b.n.x.l++(b.n.y.l++(b.n.z.l++(b.d.l++(c.n.x.l++(c.n.y.l++(c.n.z.l++c.d.l)))))))))))
def p3L(a b c:PN):List CV:=a.n.x.l++(a.n.y.l++(a.n.z.l++(a.d.l++(b.n.x.l++(b.n.y.l++(b.n.z.l++(b.d.l++(c.n.x.l++(c.n.y.l++(c.n.z.l++c.d.l))))))))))
def p3M(a b c:PN):List MV:=own (p3L a b c)
end Go.Fw
open Go IntKind
namespace Go.Fw
set_option maxRecDepth 100000
theorem sdn_p1(p:PN)(v:VN)(g1:p.ok=true)(g2:v.ok=true)(s4_0:PN.raw 1000000 p=true)(s8_0:VN.raw 1000000 v=true)(s15_0:VN.raw 10000 p.n=true)(s15_1:VN.raw 10000 v=true)(s18_0:RN.raw 100000 (wDot p.n v)=true)(s18_1:RN.raw 100000 p.d=true):PCall P 93 [p.c,v.c] (.lit (.int .i64 (nCmp (wDot p.n v) p.d))):=
 pcallT (.r 4 ((PVal_r (p) s4_0).eqB g1) (.r 8 ((VVal (v) s8_0).eqB g2) (.r 15 (VDot_n (p.n) (v) s15_0 s15_1) (.r 18 (FCmp_r (wDot p.n v) (p.d) s18_0 s18_1) .nil)))) (by kernel_rfl)
theorem vdt_p1(u v w:VN)(s7_0:VN.raw 1000 v=true)(s7_1:VN.raw 1000 w=true)(s8_0:VN.raw 10000 u=true)(s8_1:VN.raw 10000 (wCross v w)=true):PCall P 175 [u.c,v.c,w.c] (RN.c (wDot u (wCross v w))):=
 pcallT (.r 7 (VCross_r (v) (w) s7_0 s7_1) (.r 8 (VDot_n (u) (wCross v w) s8_0 s8_1) (.c (lq 10 10) .nil))) (by kernel_rfl)
theorem inv_p1(a b c:PN)(g1:a.ok=true)(g2:b.ok=true)(g3:c.ok=true)(s12_0:PN.raw 1000000 a=true)(s25_0:PN.raw 1000000 b=true)(s38_0:PN.raw 1000000 c=true):PCall P 174 [pl3 a b c] (.lit (.bool false)):=
 pcallT (.c (bq 0 3) (.c (lq 40 40) (.r 12 ((PVal_r (a) s12_0).eqB g1) (.c (bq 1 3) (.c (lq 40 40) (.r 25 ((PVal_r (b) s25_0).eqB g2) (.c (bq 2 3) (.c (lq 40 40) (.r 38 ((PVal_r (c) s38_0).eqB g3) .nil))))))))) (by kernel_rfl)
theorem rdt_p1(u v w:VN)(g1:u.ok=true)(g2:v.ok=true)(g3:w.ok=true)(s5_0:VN.raw 1000000 u=true)(s9_0:VN.raw 1000000 v=true)(s14_0:VN.raw 1000000 w=true)(s21_0:VN.raw 1000 v=true)(s21_1:VN.raw 1000 w=true)(s22_0:VN.raw 1000 u=true)(s22_1:VN.raw 1000 (wCross v w)=true):PCall P 100 [u.c,v.c,w.c] (RN.c (wDot u (wCross v w))):=
 pcallT (.r 5 ((V4Val (u) s5_0).eqB g1) (.r 9 ((V4Val (v) s9_0).eqB g2) (.r 14 ((V4Val (w) s14_0).eqB g3) (.r 21 (V4Cross_r (v) (w) s21_0 s21_1) (.r 22 (V4Dot_r (u) (wCross v w) s22_0 s22_1) (.c (lq 10 10) .nil)))))) (by kernel_rfl)
end Go.Fw
open Go
namespace Go.Fw
set_option maxRecDepth 100000
theorem Inv3(a b c:PN)(g1:a.ok=true)(g2:b.ok=true)(g3:c.ok=true)(h1:a.raw 1000000=true)(h2:b.raw 1000000=true)(h3:c.raw 1000000=true):PCall P 174 [pl3 a b c] (.lit (.bool false)):=inv_p1 a b c g1 g2 g3 h1 h2 h3
noncomputable def wDet3(u v w:VN):RN:=wDot u (wCross v w)
theorem VDet_n(u v w:VN)(hu:u.raw 1000=true)(hv:v.raw 1000=true)(hw:w.raw 1000=true):PCall P 175 [u.c,v.c,w.c] (wDet3 u v w).c:=
 vdt_p1 u v w hv hw (VN.raw_mono hu (by decide)) (VN.raw_mono (raw_wCross hv hw) (by decide))
theorem RDet_n(u v w:VN)(g1:u.ok=true)(g2:v.ok=true)(g3:w.ok=true)(hu:u.raw 200=true)(hv:v.raw 200=true)(hw:w.raw 200=true):PCall P 100 [u.c,v.c,w.c] (wDet3 u v w).c:=by
 have m: ∀{x:VN},x.raw 200=true→x.raw 1000000=true:=fun h=>VN.raw_mono h (by decide)
 have n: ∀{x:VN},x.raw 200=true→x.raw 1000=true:=fun h=>VN.raw_mono h (by decide)
 exact rdt_p1 u v w g1 g2 g3 (m hu) (m hv) (m hw) (n hv) (n hw) (n hu) (VN.raw_mono (raw_wCross hv hw) (by decide))
theorem Side_n(p:PN)(v:VN)(g1:p.ok=true)(g2:v.ok=true)(hp:p.raw 10000=true)(hv:v.raw 10000=true):PCall P 93 [p.c,v.c] (ci64 (sideV p v)):=by
 obtain⟨hn,hd⟩:=PN.raw_iff.1 hp
 have h:=sdn_p1 p v g1 g2 (PN.raw_mono hp (by decide)) (VN.raw_mono hv (by decide)) hn hv (RN.raw_mono (raw_wDotn hn hv) (by decide)) (RN.raw_mono hd (by decide))
 unfold sideV
 rw[g1,g2]
 exact h
end Go.Fw
open Go IntKind
namespace Go.Fw
set_option maxRecDepth 100000
theorem mee_p1(a b c:PN)(g1:a.ok=true)(g2:b.ok=true)(g3:c.ok=true)(h1:(nSgn (wDet3 a.n b.n c.n)==0)=true)(s9_0:PN.raw 1000000 a=true)(s9_1:PN.raw 1000000 b=true)(s9_2:PN.raw 1000000 c=true)(s17_0:VN.raw 1000 a.n=true)(s17_1:VN.raw 1000 b.n=true)(s17_2:VN.raw 1000 c.n=true)(s21_0:RN.raw 1000000 (wDet3 a.n b.n c.n)=true)(o1:(p3M a b c)=(p3M a b c)):PCall P 96 [a.c,b.c,c.c] (.tup [zeroVec,.lit (.int .i64 11)]):=
 pcallT (.c (Inv3 (a) (b) (c) g1 g2 g3 s9_0 s9_1 s9_2) (.c o1 (.c (VDet_n (a.n) (b.n) (c.n) s17_0 s17_1 s17_2) (.c (lq 10 10) (.c (FSign_r (wDet3 a.n b.n c.n) s21_0) (.o 9 (.k (.lit (.bool false)) [(p3L a b c)]) (.o 17 (.r (RN.c (wDet3 a.n b.n c.n))) (.o 21 (.r (.lit (.int .i64 (nSgn (wDet3 a.n b.n c.n))))) (.b 23 h1 (.c (lq 30 30) .nil)))))))))) (by kernel_rfl)
theorem mee_p2(a b c:PN)(g1:a.ok=true)(g2:b.ok=true)(g3:c.ok=true)(h1:(nSgn (wDet3 a.n b.n c.n)==0)=false)(s9_0:PN.raw 1000000 a=true)(s9_1:PN.raw 1000000 b=true)(s9_2:PN.raw 1000000 c=true)(s17_0:VN.raw 1000 a.n=true)(s17_1:VN.raw 1000 b.n=true)(s17_2:VN.raw 1000 c.n=true)(s21_0:RN.raw 1000000 (wDet3 a.n b.n c.n)=true)(s28_0:VN.raw 1000 b.n=true)(s28_1:VN.raw 1000 c.n=true)(s31_0:VN.raw 1000000 (wCross b.n c.n)=true)(s31_1:RN.raw 1000000 a.d=true)(s38_0:VN.raw 1000 c.n=true)(s38_1:VN.raw 1000 a.n=true)(s41_0:VN.raw 1000000 (wCross c.n a.n)=true)(s41_1:RN.raw 1000000 b.d=true)(s48_0:VN.raw 1000 a.n=true)(s48_1:VN.raw 1000 b.n=true)(s51_0:VN.raw 1000000 (wCross a.n b.n)=true)(s51_1:RN.raw 1000000 c.d=true)(s56_0:VN.raw 1000000 (wScale (wCross b.n c.n) a.d)=true)(s56_1:VN.raw 1000000 (wScale (wCross c.n a.n) b.d)=true)(s58_0:VN.raw 1000000 (wAdd (wScale (wCross b.n c.n) a.d) (wScale (wCross c.n a.n) b.d))=true)(s58_1:VN.raw 1000000 (wScale (wCross a.n b.n) c.d)=true)(s59_0:(-9223372036854775808:Int)≤1∧(1:Int)≤9223372036854775807)(s61_0:RN.raw 1000000 (oN (1:Int))=true)(s61_1:RN.raw 1000000 (wDet3 a.n b.n c.n)=true)(s62_0:VN.raw 1000000 (wAdd (wAdd (wScale (wCross b.n c.n) a.d) (wScale (wCross c.n a.n) b.d)) (wScale (wCross a.n b.n) c.d))=true)(s62_1:RN.raw 1000000 (nDivE (oN (1:Int)) (wDet3 a.n b.n c.n)).fst=true)(o1:(p3M a b c)=(p3M a b c)):PCall P 96 [a.c,b.c,c.c] (.tup [vecR (wScale (wAdd (wAdd (wScale (wCross b.n c.n) a.d) (wScale (wCross c.n a.n) b.d)) (wScale (wCross a.n b.n) c.d)) (nDivE (oN (1:Int)) (wDet3 a.n b.n c.n)).fst).x (wScale (wAdd (wAdd (wScale (wCross b.n c.n) a.d) (wScale (wCross c.n a.n) b.d)) (wScale (wCross a.n b.n) c.d)) (nDivE (oN (1:Int)) (wDet3 a.n b.n c.n)).fst).y (wScale (wAdd (wAdd (wScale (wCross b.n c.n) a.d) (wScale (wCross c.n a.n) b.d)) (wScale (wCross a.n b.n) c.d)) (nDivE (oN (1:Int)) (wDet3 a.n b.n c.n)).fst).z,.lit (.int .i64 0)]):=
 pcallT (.c (Inv3 (a) (b) (c) g1 g2 g3 s9_0 s9_1 s9_2) (.c o1 (.c (VDet_n (a.n) (b.n) (c.n) s17_0 s17_1 s17_2) (.c (lq 10 10) (.c (FSign_r (wDet3 a.n b.n c.n) s21_0) (.o 9 (.k (.lit (.bool false)) [(p3L a b c)]) (.o 17 (.r (RN.c (wDet3 a.n b.n c.n))) (.o 21 (.r (.lit (.int .i64 (nSgn (wDet3 a.n b.n c.n))))) (.b 23 h1 (.c (VCross_r (b.n) (c.n) s28_0 s28_1) (.c (VScale_r (wCross b.n c.n) (a.d) s31_0 s31_1) (.c (lq 30 30) (.c (VCross_r (c.n) (a.n) s38_0 s38_1) (.c (VScale_r (wCross c.n a.n) (b.d) s41_0 s41_1) (.c (lq 30 30) (.c (VCross_r (a.n) (b.n) s48_0 s48_1) (.c (VScale_r (wCross a.n b.n) (c.d) s51_0 s51_1) (.c (lq 30 30) (.c (VAdd_r (wScale (wCross b.n c.n) a.d) (wScale (wCross c.n a.n) b.d) s56_0 s56_1) (.c (VAdd_r (wAdd (wScale (wCross b.n c.n) a.d) (wScale (wCross c.n a.n) b.d)) (wScale (wCross a.n b.n) c.d) s58_0 s58_1) (.c (FOf_r ((1:Int)) s59_0) (.c (FQuo_r (oN (1:Int)) (wDet3 a.n b.n c.n) s61_0 s61_1) (.c (VScale_r (wAdd (wAdd (wScale (wCross b.n c.n) a.d) (wScale (wCross c.n a.n) b.d)) (wScale (wCross a.n b.n) c.d)) ((nDivE (oN (1:Int)) (wDet3 a.n b.n c.n)).fst) s62_0 s62_1) (.c (lq 30 30) (.o 28 (.r (vecR (wCross b.n c.n).x (wCross b.n c.n).y (wCross b.n c.n).z)) (.o 31 (.r (vecR (wScale (wCross b.n c.n) a.d).x (wScale (wCross b.n c.n) a.d).y (wScale (wCross b.n c.n) a.d).z)) (.o 38 (.r (vecR (wCross c.n a.n).x (wCross c.n a.n).y (wCross c.n a.n).z)) (.o 41 (.r (vecR (wScale (wCross c.n a.n) b.d).x (wScale (wCross c.n a.n) b.d).y (wScale (wCross c.n a.n) b.d).z)) (.o 48 (.r (vecR (wCross a.n b.n).x (wCross a.n b.n).y (wCross a.n b.n).z)) (.o 51 (.r (vecR (wScale (wCross a.n b.n) c.d).x (wScale (wCross a.n b.n) c.d).y (wScale (wCross a.n b.n) c.d).z)) (.o 56 (.r (vecR (wAdd (wScale (wCross b.n c.n) a.d) (wScale (wCross c.n a.n) b.d)).x (wAdd (wScale (wCross b.n c.n) a.d) (wScale (wCross c.n a.n) b.d)).y (wAdd (wScale (wCross b.n c.n) a.d) (wScale (wCross c.n a.n) b.d)).z)) (.o 58 (.r (vecR (wAdd (wAdd (wScale (wCross b.n c.n) a.d) (wScale (wCross c.n a.n) b.d)) (wScale (wCross a.n b.n) c.d)).x (wAdd (wAdd (wScale (wCross b.n c.n) a.d) (wScale (wCross c.n a.n) b.d)) (wScale (wCross a.n b.n) c.d)).y (wAdd (wAdd (wScale (wCross b.n c.n) a.d) (wScale (wCross c.n a.n) b.d)) (wScale (wCross a.n b.n) c.d)).z)) (.o 59 (.r (RN.c (oN (1:Int)))) (.o 61 (.r (RN.c (nDivE (oN (1:Int)) (wDet3 a.n b.n c.n)).fst)) (.o 62 (.r (vecR (wScale (wAdd (wAdd (wScale (wCross b.n c.n) a.d) (wScale (wCross c.n a.n) b.d)) (wScale (wCross a.n b.n) c.d)) (nDivE (oN (1:Int)) (wDet3 a.n b.n c.n)).fst).x (wScale (wAdd (wAdd (wScale (wCross b.n c.n) a.d) (wScale (wCross c.n a.n) b.d)) (wScale (wCross a.n b.n) c.d)) (nDivE (oN (1:Int)) (wDet3 a.n b.n c.n)).fst).y (wScale (wAdd (wAdd (wScale (wCross b.n c.n) a.d) (wScale (wCross c.n a.n) b.d)) (wScale (wCross a.n b.n) c.d)) (nDivE (oN (1:Int)) (wDet3 a.n b.n c.n)).fst).z)) .nil))))))))))))))))))))))))))))))))))) (by kernel_rfl)
end Go.Fw
open Go
namespace Go.Fw
set_option maxRecDepth 100000
noncomputable def meetN(a b c:PN):VN:=wAdd (wAdd (wScale (wCross b.n c.n) a.d) (wScale (wCross c.n a.n) b.d)) (wScale (wCross a.n b.n) c.d)
noncomputable def meetV(a b c:PN):VN×Int:=if nSgn (wDet3 a.n b.n c.n)=0 then(.zero,11)else(wScale (meetN a b c) (nDivE (oN 1) (wDet3 a.n b.n c.n)).1,0)
theorem raw_meetN{a b c:PN}(ha:a.raw 10=true)(hb:b.raw 10=true)(hc:c.raw 10=true):(meetN a b c).raw 400=true∧(wDet3 a.n b.n c.n).raw 400=true:=by
 obtain⟨na,da⟩:=PN.raw_iff.1 ha
 obtain⟨nb,db⟩:=PN.raw_iff.1 hb
 obtain⟨nc,dc⟩:=PN.raw_iff.1 hc
 have cr: ∀{x y:VN},x.raw 10=true→y.raw 10=true→(wCross x y).raw 43=true:=fun h k=>raw_wCross (n:=10) h k
 have sc: ∀{x:VN} {k:RN},x.raw 43=true→k.raw 10=true→(wScale x k).raw 87=true:=fun h k=>raw_wScale (n:=43) h (RN.raw_mono k (by decide))
 have x:=sc (cr nb nc) da
 have y:=sc (cr nc na) db
 have z:=sc (cr na nb) dc
 have s:=raw_wAdd x y
 have t:=raw_wAdd s (VN.raw_mono z (by decide))
 exact⟨VN.raw_mono t (by decide),RN.raw_mono (raw_wDotn (VN.raw_mono na (show 10≤43 by decide)) (cr nb nc)) (by decide)⟩
theorem Meet_n(a b c:PN)(g1:a.ok=true)(g2:b.ok=true)(g3:c.ok=true)(ha:a.raw 10=true)(hb:b.raw 10=true)(hc:c.raw 10=true):PCall P 96 [a.c,b.c,c.c] (.tup [(meetV a b c).1.c,ci64 (meetV a b c).2]):=by
 obtain⟨r1,r2⟩:=raw_meetN ha hb hc
 obtain⟨na,da⟩:=PN.raw_iff.1 ha
 obtain⟨nb,db⟩:=PN.raw_iff.1 hb
 obtain⟨nc,dc⟩:=PN.raw_iff.1 hc
 have m6: ∀{x:PN},x.raw 10=true→x.raw 1000000=true:=fun h=>PN.raw_mono h (by decide)
 have v3: ∀{x:VN},x.raw 10=true→x.raw 1000=true:=fun h=>VN.raw_mono h (by decide)
 have k6: ∀{x:RN},x.raw 10=true→x.raw 1000000=true:=fun h=>RN.raw_mono h (by decide)
 have cr: ∀{x y:VN},x.raw 10=true→y.raw 10=true→(wCross x y).raw 43=true:=fun h k=>raw_wCross (n:=10) h k
 have cr6: ∀{x y:VN},x.raw 10=true→y.raw 10=true→(wCross x y).raw 1000000=true:=fun h k=>VN.raw_mono (cr h k) (by decide)
 have sc: ∀{x:VN} {k:RN},x.raw 43=true→k.raw 10=true→(wScale x k).raw 87=true:=fun h k=>raw_wScale (n:=43) h (RN.raw_mono k (by decide))
 have sc6: ∀{x:VN} {k:RN},x.raw 43=true→k.raw 10=true→(wScale x k).raw 1000000=true:=fun h k=>VN.raw_mono (sc h k) (by decide)
 have d6:(wDet3 a.n b.n c.n).raw 1000000=true:=RN.raw_mono r2 (by decide)
 unfold meetV
 by_cases h:nSgn (wDet3 a.n b.n c.n)=0
 · rw[if_pos h]
   exact mee_p1 a b c g1 g2 g3 (beq_iff_eq.2 h) (m6 ha) (m6 hb) (m6 hc) (v3 na) (v3 nb) (v3 nc) d6 rfl
 · rw[if_neg h]
   exact mee_p2 a b c g1 g2 g3 (beq_false_of_ne h) (m6 ha) (m6 hb) (m6 hc) (v3 na) (v3 nb) (v3 nc) d6 (v3 nb) (v3 nc) (cr6 nb nc) (k6 da) (v3 nc) (v3 na) (cr6 nc na) (k6 db) (v3 na) (v3 nb) (cr6 na nb) (k6 dc) (sc6 (cr nb nc) da) (sc6 (cr nc na) db)
    (VN.raw_mono (raw_wAdd (sc (cr nb nc) da) (sc (cr nc na) db)) (by decide)) (sc6 (cr na nb) dc) (by decide) (RN.raw_mono raw_one (by decide)) d6 (VN.raw_mono r1 (by decide)) (RN.raw_mono (raw_div (RN.raw_mono raw_one (by decide)) r2) (by decide)) rfl
theorem V4Sub_n(v w:VN)(hv:v.raw 10=true)(hw:w.raw 10=true):PCall P 101 [v.c,w.c] (wSub v w).c:=V4Sub_r v w (VN.raw_mono hv (by decide)) (VN.raw_mono hw (by decide))
end Go.Fw
