/- A part of the proof that the law returns true for every input: an executor for the model's code, and what functions of the program compute. -/
import Derived.Test.YtcafjpldfnegiaaGreatDoorB11
import Derived.Test.YtcafjpldfnegiaaGreatDoorB15
import Derived.Test.YtcafjpldfnegiaaGreatDoorB41
import Derived.Test.YtcafjpldfnegiaaGreatDoorB42
import Derived.Test.YtcafjpldfnegiaaGreatDoorB45
import Derived.KernelRfl
open Go
namespace Go.Fw
set_option maxRecDepth 100000
theorem z9x(x:K)(hx:x.sz≤1000000):PCall P 71 [Q8 x] (j6 (K.sgn x)):=by
 obtain⟨x0,x1,x2,x3,_⟩:=By.of_sz hx
 have t01:z5F x.c0 x.c1:=⟨_,by decide,x0,x1⟩
 have t23:z5F x.c2 x.c3:=⟨_,by decide,x2,x3⟩
 have b1:=zaO x.c0 x.c1
 rw[←zdP]
 unfold zrs
 by_cases h1:sg2 x.c0 x.c1=sg2 x.c2 x.c3
 · rw[z3d (c':=0) (.inl h1)]
   unfold z5o
   rw[if_pos (.inl h1)]
   exact zpu x (by simp[h1]) hx t01 t23
 · by_cases h2:sg2 x.c2 x.c3=0
   · unfold z5o
     rw[if_pos (.inr h2)]
     exact zoR x (beq_false_of_ne h1) (by simp[h2]) hx t01 t23
   · by_cases h3:sg2 x.c0 x.c1=0
     · unfold z5o
       rw[if_neg (fun h=>h.elim h1 h2),if_pos h3]
       exact zoz x (beq_false_of_ne h1) (beq_false_of_ne h2) (by simp[h3]) hx t01 t23
     · unfold z5o
       rw[if_neg (fun h=>h.elim h1 h2),if_neg h3]
       obtain⟨N,hN,e⟩: ∃N,N=1000000∧x.sz≤N:=⟨_,rfl,hx⟩
       obtain⟨y0,y1,y2,y3,_⟩:=By.of_sz e
       have k3: ∀{n:Nat},1≤n→By n 3:=fun h=>(show By 1 3 by unfold By;decide).mono h
       have u1:=((y0.mul y0).mono (Nat.le_succ _)).add (y1.mul y1).two
       have u2:=((y2.mul y2).mono (Nat.le_succ _)).add (y3.mul y3).two
       have u3:=u2.k (k:=3) (by decide)
       have v1:=(y0.mul y1).two
       have v2:=(y2.mul y3).two
       have v3:=v2.k (k:=3) (by decide)
       have w1:=(u1.mono (Nat.le_succ _)).sub u3
       have w2:=(v1.mono (Nat.le_succ _)).sub v3
       have h:=zp9 x (beq_false_of_ne h1) (beq_false_of_ne h2) (beq_false_of_ne h3) hx t01 t23 ⟨N,by omega,y0,y1⟩ ⟨N,by omega,y2,y3⟩ (by decide) ⟨_,by omega,k3 (by omega),u2⟩ ⟨_,by omega,u1.mono (Nat.le_succ _),u3⟩
        ⟨_,by omega,k3 (by omega),v2⟩ ⟨_,by omega,v1.mono (Nat.le_succ _),v3⟩ ⟨_,by omega,w1,w2.mono (by omega)⟩
       rw[show(1:Int)*(x.c0*x.c0)+2*(x.c1*x.c1)-(3*(x.c2*x.c2)+6*(x.c3*x.c3))=x.c0*x.c0+2*(x.c1*x.c1)-3*(x.c2*x.c2+2*(x.c3*x.c3)) by grind,
        show 2*(x.c0*x.c1)-6*(x.c2*x.c3)=2*(x.c0*x.c1)-3*(2*(x.c2*x.c3)) by grind]
       have s2:=zaO (x.c0*x.c0+2*(x.c1*x.c1)-3*(x.c2*x.c2+2*(x.c3*x.c3))) (2*(x.c0*x.c1)-3*(2*(x.c2*x.c3)))
       generalize sg2 (x.c0*x.c0+2*(x.c1*x.c1)-3*(x.c2*x.c2+2*(x.c3*x.c3))) (2*(x.c0*x.c1)-3*(2*(x.c2*x.c3)))=t at*
       have hw:IntKind.i64.wrap (sg2 x.c0 x.c1*t)=sg2 x.c0 x.c1*t:=by
        have:sg2 x.c0 x.c1= -1∨sg2 x.c0 x.c1=1:=by omega
        rcases this with h|h<;>rw[h]<;>exact w64 (by omega)
       rw[hw]at h
       exact h
theorem z22(x:RN)(hx:x.raw 1000000=true):PCall P 71 [x.c] (j6 (z15 x)):=by
 unfold z15
 cases ex:toO x with
 |none=>exact zlc x (U4 ex) hx
 |some k=>
  have a:=z0c ex hx
  rw[z8B (z0I ex).2]
  exact z9x k a
end Go.Fw
open Go IntKind
namespace Go.Fw
set_option maxRecDepth 100000
theorem zqH(p:PN)(h1:(p.n.ok)=true)(h2:(zV p.n)=true)(s4_0:VN.raw 1000000 p.n=true):PCall P 80 [p.c] (.lit (.bool false)):=
 j3 (.r 4 ((z5n (p.n) s4_0).eqB h1) (.r 8 ((z7b (p.n)).eqB h2) .nil)) (by kernel_rfl)
theorem zpe(p:PN)(h1:(p.n.ok)=true)(h2:(zV p.n)=false)(h3:(p.d.ok)=true)(s4_0:VN.raw 1000000 p.n=true)(s14_0:RN.raw 1000000 p.d=true):PCall P 80 [p.c] (.lit (.bool true)):=
 j3 (.r 4 ((z5n (p.n) s4_0).eqB h1) (.r 8 ((z7b (p.n)).eqB h2) (.r 14 ((V0 (p.d) s14_0).eqB h3) .nil))) (by kernel_rfl)
theorem zmk(p:PN)(h1:(p.n.ok)=true)(h2:(zV p.n)=false)(h3:(p.d.ok)=false)(s4_0:VN.raw 1000000 p.n=true)(s14_0:RN.raw 1000000 p.d=true):PCall P 80 [p.c] (.lit (.bool false)):=
 j3 (.r 4 ((z5n (p.n) s4_0).eqB h1) (.r 8 ((z7b (p.n)).eqB h2) (.r 14 ((V0 (p.d) s14_0).eqB h3) .nil))) (by kernel_rfl)
theorem zoO(p:PN)(h1:(p.n.ok)=false)(s4_0:VN.raw 1000000 p.n=true):PCall P 80 [p.c] (.lit (.bool false)):=
 j3 (.r 4 ((z5n (p.n) s4_0).eqB h1) .nil) (by kernel_rfl)
theorem znn(p:PN)(h1:(VN.raw 10 p.n)=true)(h2:(RN.raw 10 p.d)=true):PCall P 153 [p.c,j6 10] (.lit (.bool true)):=
 j3 (.r 5 ((z8z (p.n)).eqB h1) (.r 10 ((z2U (p.d)).eqB h2) .nil)) (by kernel_rfl)
theorem zmG(p:PN)(h1:(VN.raw 10 p.n)=true)(h2:(RN.raw 10 p.d)=false):PCall P 153 [p.c,j6 10] (.lit (.bool false)):=
 j3 (.r 5 ((z8z (p.n)).eqB h1) (.r 10 ((z2U (p.d)).eqB h2) .nil)) (by kernel_rfl)
theorem zr2(p:PN)(h1:(VN.raw 10 p.n)=false):PCall P 153 [p.c,j6 10] (.lit (.bool false)):=
 j3 (.r 5 ((z8z (p.n)).eqB h1) .nil) (by kernel_rfl)
end Go.Fw
open Go
namespace Go.Fw
set_option maxRecDepth 100000
theorem z0x(p:PN)(hp:p.raw 1000000=true):PCall P 80 [p.c] (.lit (.bool p.ok)):=by
 obtain⟨hn,hd⟩:=PN.raw_iff.1 hp
 unfold PN.ok
 cases e1:p.n.ok
 · exact zoO p e1 hn
 · cases e2:zV p.n
   · cases e3:p.d.ok
     · exact zmk p e1 e2 e3 hn hd
     · exact zpe p e1 e2 e3 hn hd
   · exact zqH p e1 e2 hn
theorem zht(p:PN):PCall P 153 [p.c,j6 10] (.lit (.bool (p.raw 10))):=by
 unfold PN.raw
 cases h1:p.n.raw 10
 · exact zr2 p h1
 · cases h2:p.d.raw 10
   · exact zmG p h1 h2
   · exact znn p h1 h2
def pl1(p:PN):CV:= .lst 1 (p.n.x.l++(p.n.y.l++(p.n.z.l++p.d.l)))
def plL(p:PN):List CV:=p.n.x.l++(p.n.y.l++(p.n.z.l++p.d.l))
def plM(p:PN):List MV:=own (plL p)
theorem zqc(t:Int)(b:Bool):PCall P 55 [.agg [j6 t,.lit (.bool b)]] (.lit (.bool (U1 t))):=z0V t b
end Go.Fw
open Go IntKind
namespace Go.Fw
set_option maxRecDepth 100000
theorem zjs(p:PN)(h1:(PN.raw 10 p)=true):PCall P 73 [pl1 p] (.lit (.bool true)):=
 j3 (.c (bq 0 1) (.c (lq 40 40) (.r 12 ((zht (p)).eqB h1) .nil))) (by kernel_rfl)
theorem zjJ(p:PN)(h1:(PN.raw 10 p)=false):PCall P 73 [pl1 p] (.lit (.bool false)):=
 j3 (.c (bq 0 1) (.c (lq 40 40) (.r 12 ((zht (p)).eqB h1) .nil))) (by kernel_rfl)
theorem zng(p:PN)(t:Int)(b:Bool)(h1:(p.ok)=true)(h2:(U1 t)=true)(s5_0:PN.raw 1000000 p=true)(s16_0:z46 100000 p.n.x p.n.y p.n.z=true):PCall P 102 [p.c,.agg [j6 t,.lit (.bool b)]] (.tup [plR (nX p.n.x p.n.y p.n.z t b) (nY p.n.x p.n.y p.n.z t b) (nZ p.n.x p.n.y p.n.z) p.d,.lit (.int .i64 0)]):=
 j3 (.r 5 ((z1s (p) s5_0).eqB h1) (.r 9 ((zqc (t) (b)).eqB h2) (.r 16 (zm9 (p.n.x) (p.n.y) (p.n.z) (t) (b) h2 s16_0) (.c (lq 40 40) .nil)))) (by kernel_rfl)
theorem zmI(p:PN)(t:Int)(b:Bool)(h1:(p.ok)=true)(h2:(U1 t)=false)(s5_0:PN.raw 1000000 p=true):PCall P 102 [p.c,.agg [j6 t,.lit (.bool b)]] (.tup [z0R,.lit (.int .i64 1)]):=
 j3 (.r 5 ((z1s (p) s5_0).eqB h1) (.r 9 ((zqc (t) (b)).eqB h2) (.c (lq 40 40) .nil))) (by kernel_rfl)
theorem zqg(p:PN)(t:Int)(b:Bool)(h1:(p.ok)=false)(s5_0:PN.raw 1000000 p=true):PCall P 102 [p.c,.agg [j6 t,.lit (.bool b)]] (.tup [z0R,.lit (.int .i64 1)]):=
 j3 (.r 5 ((z1s (p) s5_0).eqB h1) (.c (lq 40 40) .nil)) (by kernel_rfl)
theorem zqR(p:PN)(v:VN)(h1:(p.ok)=true)(h2:(v.ok)=true)(s5_0:PN.raw 1000000 p=true)(s9_0:VN.raw 1000000 v=true)(s20_0:VN.raw 1000 p.n=true)(s20_1:VN.raw 1000 v=true)(s21_0:RN.raw 1000000 p.d=true)(s21_1:RN.raw 1000000 (zas p.n v)=true):PCall P 103 [p.c,v.c] (.tup [plR p.n.x p.n.y p.n.z (z3n p.d (zas p.n v)),.lit (.int .i64 0)]):=
 j3 (.r 5 ((z1s (p) s5_0).eqB h1) (.r 9 ((zeM (v) s9_0).eqB h2) (.r 20 (znD (p.n) (v) s20_0 s20_1) (.r 21 (z89 (p.d) (zas p.n v) s21_0 s21_1) (.c (lq 40 40) .nil))))) (by kernel_rfl)
theorem zqq(p:PN)(v:VN)(h1:(p.ok)=true)(h2:(v.ok)=false)(s5_0:PN.raw 1000000 p=true)(s9_0:VN.raw 1000000 v=true):PCall P 103 [p.c,v.c] (.tup [z0R,.lit (.int .i64 1)]):=
 j3 (.r 5 ((z1s (p) s5_0).eqB h1) (.r 9 ((zeM (v) s9_0).eqB h2) (.c (lq 40 40) .nil))) (by kernel_rfl)
theorem znG(p:PN)(v:VN)(h1:(p.ok)=false)(s5_0:PN.raw 1000000 p=true):PCall P 103 [p.c,v.c] (.tup [z0R,.lit (.int .i64 1)]):=
 j3 (.r 5 ((z1s (p) s5_0).eqB h1) (.c (lq 40 40) .nil)) (by kernel_rfl)
theorem zqU(p:PN)(k:RN)(h1:(p.ok)=true)(h2:(k.ok)=true)(h3:decide (z15 k≤0)=true)(s5_0:PN.raw 1000000 p=true)(s9_0 s15_0:RN.raw 1000000 k=true):PCall P 104 [p.c,k.c] (.tup [z0R,.lit (.int .i64 2)]):=
 j3 (.r 5 ((z1s (p) s5_0).eqB h1) (.r 9 ((z0d (k) s9_0).eqB h2) (.r 15 (z2Q (k) s15_0) (.b 18 h3 (.c (lq 40 40) .nil))))) (by kernel_rfl)
theorem zrg(p:PN)(k:RN)(h1:(p.ok)=true)(h2:(k.ok)=true)(h3:decide (z15 k≤0)=false)(s5_0:PN.raw 1000000 p=true)(s9_0 s15_0:RN.raw 1000000 k=true)(s24_0:RN.raw 1000000 p.d=true)(s24_1:RN.raw 1000000 k=true):PCall P 104 [p.c,k.c] (.tup [plR p.n.x p.n.y p.n.z (z1Z p.d k),.lit (.int .i64 0)]):=
 j3 (.r 5 ((z1s (p) s5_0).eqB h1) (.r 9 ((z0d (k) s9_0).eqB h2) (.r 15 (z2Q (k) s15_0) (.b 18 h3 (.r 24 (z4u (p.d) (k) s24_0 s24_1) (.c (lq 40 40) .nil)))))) (by kernel_rfl)
theorem zqN(p:PN)(k:RN)(h1:(p.ok)=true)(h2:(k.ok)=false)(s5_0:PN.raw 1000000 p=true)(s9_0:RN.raw 1000000 k=true):PCall P 104 [p.c,k.c] (.tup [z0R,.lit (.int .i64 1)]):=
 j3 (.r 5 ((z1s (p) s5_0).eqB h1) (.r 9 ((z0d (k) s9_0).eqB h2) (.c (lq 40 40) .nil))) (by kernel_rfl)
theorem zmB(p:PN)(k:RN)(h1:(p.ok)=false)(s5_0:PN.raw 1000000 p=true):PCall P 104 [p.c,k.c] (.tup [z0R,.lit (.int .i64 1)]):=
 j3 (.r 5 ((z1s (p) s5_0).eqB h1) (.c (lq 40 40) .nil)) (by kernel_rfl)
end Go.Fw
open Go
namespace Go.Fw
set_option maxRecDepth 100000
noncomputable def zbE(v:VN)(t:Int)(b:Bool):VN:=⟨nX v.x v.y v.z t b,nY v.x v.y v.z t b,nZ v.x v.y v.z⟩
noncomputable def mvV(p:PN)(t:Int)(b:Bool):PN×Int:=if p.ok&&U1 t then(⟨zbE p.n t b,p.d⟩,0)else(.zero,1)
noncomputable def shV(p:PN)(v:VN):PN×Int:=if p.ok&&v.ok then(⟨p.n,z3n p.d (zas p.n v)⟩,0)else(.zero,1)
noncomputable def scV(p:PN)(k:RN):PN×Int:=if p.ok&&k.ok then(if z15 k≤0 then(.zero,2)else(⟨p.n,z1Z p.d k⟩,0))else(.zero,1)
theorem zaM{v w:VN}(hv:v.raw 1000=true)(hw:w.raw 1000=true):(zas v w).raw 10000=true:=by
 refine z0N ?_
 cases ev:toV v with
 |none=>exact Nat.zero_le _
 |some a=>
  cases ew:toV w with
  |none=>exact Nat.zero_le _
  |some b=>
   obtain⟨x,y,z⟩:=z1t ev hv
   obtain⟨x',y',z'⟩:=z1t ew hw
   have m1:=K.sz_mul a.x b.x
   have m2:=K.sz_mul a.y b.y
   have m3:=K.sz_mul a.z b.z
   have m4:=K.sz_add (a.x*b.x) (a.y*b.y)
   have m5:=K.sz_add (a.x*b.x+a.y*b.y) (a.z*b.z)
   show(a.x*b.x+a.y*b.y+a.z*b.z).sz≤10000
   omega
theorem zoT(p:PN)(t:Int)(b:Bool)(hp:p.raw 1000=true):PCall P 102 [p.c,.agg [j6 t,.lit (.bool b)]] (.tup [(mvV p t b).1.c,j6 (mvV p t b).2]):=by
 obtain⟨hn,hd⟩:=PN.raw_iff.1 hp
 have P1:=PN.raw_iff.2 ⟨VN.raw_mono hn (show 1000≤1000000 by decide),RN.raw_mono hd (show 1000≤1000000 by decide)⟩
 unfold mvV
 cases e1:p.ok
 · exact zqg p t b e1 P1
 · cases e2:U1 t
   · exact zmI p t b e1 e2 P1
   · exact zng p t b e1 e2 P1 (VN.raw_mono hn (show 1000≤100000 by decide))
theorem zii(p:PN)(v:VN)(hp:p.raw 1000=true)(hv:v.raw 1000=true):PCall P 103 [p.c,v.c] (.tup [(shV p v).1.c,j6 (shV p v).2]):=by
 obtain⟨hn,hd⟩:=PN.raw_iff.1 hp
 have d1:=RN.raw_mono hd (show 1000≤1000000 by decide)
 have P1:=PN.raw_iff.2 ⟨VN.raw_mono hn (show 1000≤1000000 by decide),d1⟩
 have V1:=VN.raw_mono hv (show 1000≤1000000 by decide)
 unfold shV
 cases e1:p.ok
 · exact znG p v e1 P1
 · cases e2:v.ok
   · exact zqq p v e1 e2 P1 V1
   · exact zqR p v e1 e2 P1 V1 hn hv d1 (RN.raw_mono (zaM hn hv) (by decide))
theorem zhO(p:PN)(k:RN)(hp:p.raw 1000=true)(hk:k.raw 1000=true):PCall P 104 [p.c,k.c] (.tup [(scV p k).1.c,j6 (scV p k).2]):=by
 obtain⟨hn,hd⟩:=PN.raw_iff.1 hp
 have d1:=RN.raw_mono hd (show 1000≤1000000 by decide)
 have P1:=PN.raw_iff.2 ⟨VN.raw_mono hn (show 1000≤1000000 by decide),d1⟩
 have K1:=RN.raw_mono hk (show 1000≤1000000 by decide)
 unfold scV
 cases e1:p.ok
 · exact zmB p k e1 P1
 · cases e2:k.ok
   · exact zqN p k e1 e2 P1 K1
   · by_cases e3:z15 k≤0
     · rw[if_pos e3];exact zqU p k e1 e2 (decide_eq_true e3) P1 K1 K1
     · rw[if_neg e3];exact zrg p k e1 e2 (decide_eq_false e3) P1 K1 K1 d1 K1
theorem zl6(v:VN)(t:Int)(b:Bool)(ht:U1 t=true)(hv:v.raw 100000=true):PCall P 54 [v.c,.agg [j6 t,.lit (.bool b)]] (zbE v t b).c:=zq2 v.x v.y v.z t b ht hv
theorem zeo(p:PN):PCall P 73 [pl1 p] (.lit (.bool (p.raw 10))):=by
 cases h:p.raw 10
 · exact zjJ p h
 · exact zjs p h
theorem zmR(t:Int)(b:Bool):PCall P 56 [.agg [j6 t,.lit (.bool b)]] (.lit (.bool (U1 t))):=z0J t b
end Go.Fw
open Go
namespace Go.Fw
set_option maxRecDepth 100000
theorem RN.l_inj{x y:RN}(h:x.l=y.l):x=y:=by
 obtain⟨b0,s0,b1,s1,b2,s2,b3,s3,b4,s4⟩:=x
 obtain⟨c0,t0,c1,t1,c2,t2,c3,t3,c4,t4⟩:=y
 unfold RN.l at h
 simp only[List.cons.injEq,and_true,Y3,CV.lit.injEq,Value.bool.injEq,Value.string.injEq]at h
 obtain⟨rfl,h0,rfl,h1,rfl,h2,rfl,h3,rfl,h4⟩:=h
 subst h0 h1 h2 h3 h4
 rfl
theorem zh3{x:RN}(h:x.ok=true): ∃k,x=kN k:=by
 obtain⟨k,_,e⟩:=zgV h
 refine⟨k,RN.l_inj ?_⟩
 rw[e,z2i,RN.ofK_l]
noncomputable def kV(a b c:K):VN:=⟨kN a,kN b,kN c⟩
theorem zrF{v:VN}(h:v.ok=true): ∃a b c,v=kV a b c:=by
 obtain⟨x,y,z⟩:=v
 have h:ok3 x y z=true:=h
 unfold ok3 at h
 simp only[Bool.and_eq_true]at h
 obtain⟨h1,h2,h3⟩:=h
 obtain⟨a,rfl⟩:=zh3 h1
 obtain⟨b,rfl⟩:=zh3 h2
 obtain⟨c,rfl⟩:=zh3 h3
 exact⟨a,b,c,rfl⟩
theorem zsj(a b c:K):(kV a b c).ok=true:=by
 show ok3 (kN a) (kN b) (kN c)=true
 unfold ok3
 rw[z9m,z9m,z9m];rfl
theorem ztb(x y z:Bool):(x&&(y&&(z&&true)))=true↔x=true∧y=true∧z=true:=by cases x<;>cases y<;>cases z<;>simp
theorem zrD(a b c:K):zV (kV a b c)=true↔a=0∧b=0∧c=0:=by
 unfold zV kV
 rw[zpm,zrJ,zrz,z2E]
 dsimp only
 refine(ztb (rnB (kN a) (kN (K.ofInt 0))) (rnB (kN b) (kN (K.ofInt 0))) (rnB (kN c) (kN (K.ofInt 0)))).trans ?_
 exact and_congr (zdW _ _) (and_congr (zdW _ _) (zdW _ _))
noncomputable def kP(a b c d:K):PN:=⟨kV a b c,kN d⟩
theorem znL{a b c d:K}:(kP a b c d).ok=true↔ ¬(a=0∧b=0∧c=0):=by
 unfold PN.ok kP
 dsimp only
 rw[zsj,z9m,Bool.true_and,Bool.and_true,←zrD,Bool.not_eq_true',Bool.not_eq_true]
theorem zh6{n:VN}{d:RN}(h:(PN.mk n d).ok=true):n.ok=true∧d.ok=true:=by
 unfold PN.ok at h
 dsimp only at h
 generalize n.ok=x at*
 generalize d.ok=y at*
 generalize zV n=w at*
 revert h
 cases x<;>cases y<;>cases w<;>simp
theorem zoS{p:PN}(h:p.ok=true): ∃a b c d,p=kP a b c d:=by
 obtain⟨h1,h3⟩:=zh6 (n:=p.n) (d:=p.d) h
 obtain⟨a,b,c,e⟩:=zrF h1
 obtain⟨k,e'⟩:=zh3 h3
 refine⟨a,b,c,k,?_⟩
 unfold kP
 rw[←e,←e']
end Go.Fw
open Go IntKind
namespace Go.Fw
set_option maxRecDepth 100000
theorem zqn(v:VN)(s2_0 s2_1 s2_2:(-9223372036854775808:Int)≤0∧(0:Int)≤9223372036854775807)(s4_0:VN.raw 1000000 (oV (0:Int) (0:Int) (0:Int))=true)(s4_1:VN.raw 1000000 v=true):PCall P 169 [v.c] (z2k (zeD (oV (0:Int) (0:Int) (0:Int)) v).x (zeD (oV (0:Int) (0:Int) (0:Int)) v).y (zeD (oV (0:Int) (0:Int) (0:Int)) v).z):=
 j3 (.r 2 (zpy ((0:Int)) ((0:Int)) ((0:Int)) s2_0 s2_1 s2_2) (.r 4 (zpC (oV (0:Int) (0:Int) (0:Int)) (v) s4_0 s4_1) (.c (lq 30 30) .nil))) (by kernel_rfl)
end Go.Fw
open Go
namespace Go.Fw
set_option maxRecDepth 100000
noncomputable def ziW(v:VN):VN:=zeD (oV 0 0 0) v
theorem zrN:oV 0 0 0=kV 0 0 0:=by
 have e: ∀v:VN,v=⟨v.x,v.y,v.z⟩:=fun _=>rfl
 rw[e (oV 0 0 0),zpm,zrJ,zrz,z2E];rfl
theorem zpt(v:VN)(hv:v.raw 1000000=true):PCall P 169 [v.c] (ziW v).c:=by
 refine zqn v (by decide) (by decide) (by decide) ?_ hv
 refine VN.raw_mono (n:=10) ?_ (by decide)
 rw[zrN]
 exact Y6.2 ⟨z1d zgM,z1d zgM,z1d zgM⟩
theorem zee(a:K):0-a= -a:=(show ∀ρ:Nat→K,0-ρ 0= -ρ 0 from fun ρ=>CR.ring ρ rfl) (CR.vr [a])
theorem zdV(a b c:K):z15 (kV a b c).x=K.sgn a:=zac a
theorem ze0(a b c:K):z15 (kV a b c).y=K.sgn b:=zac b
theorem zdR(a b c:K):z15 (kV a b c).z=K.sgn c:=zac c
theorem zpV(p:PN)(hp:p.raw 1000=true)(hok:p.ok=true):PCall P 91 [p.c] (.tup [(can p).1.c,j6 (can p).2]):=by
 refine zoP p hp hok ?_
 obtain⟨a,b,c,d,rfl⟩:=zoS hok
 have nz:=znL.1 hok
 intro h1 h2 h3
 have e1:K.sgn a=0:=by rw[←zdV a b c];exact h1
 have e2:K.sgn b=0:=by rw[←ze0 a b c];exact h2
 have e3:K.sgn c=0:=by rw[←zdR a b c];exact h3
 exact nz ⟨K.sgn_zero.1 e1,K.sgn_zero.1 e2,K.sgn_zero.1 e3⟩
end Go.Fw
open Go IntKind
namespace Go.Fw
set_option maxRecDepth 100000
theorem znN(p:PN)(h1:(p.ok)=true)(s4_0:PN.raw 1000000 p=true)(s9_0:VN.raw 1000000 p.n=true)(s12_0:RN.raw 1000000 p.d=true):PCall P 92 [p.c] (.tup [plR (ziW p.n).x (ziW p.n).y (ziW p.n).z (z4z p.d),.lit (.int .i64 0)]):=
 j3 (.r 4 ((z1s (p) s4_0).eqB h1) (.r 9 (zpt (p.n) s9_0) (.r 12 (z8a (p.d) s12_0) (.c (lq 40 40) .nil)))) (by kernel_rfl)
theorem zn0(p:PN)(h1:(p.ok)=false)(s4_0:PN.raw 1000000 p=true):PCall P 92 [p.c] (.tup [z0R,.lit (.int .i64 1)]):=
 j3 (.r 4 ((z1s (p) s4_0).eqB h1) (.c (lq 40 40) .nil)) (by kernel_rfl)
end Go.Fw
open Go
namespace Go.Fw
set_option maxRecDepth 100000
noncomputable def opV(p:PN):PN×Int:=if p.ok then(⟨ziW p.n,z4z p.d⟩,0)else(.zero,1)
theorem zsh(p:PN)(hp:p.raw 1000000=true):PCall P 92 [p.c] (.tup [(opV p).1.c,j6 (opV p).2]):=by
 obtain⟨hn,hd⟩:=PN.raw_iff.1 hp
 unfold opV
 cases e1:p.ok
 · exact zn0 p e1 hp
 · exact znN p e1 hp hn hd
end Go.Fw
open Go
namespace Go.Fw
set_option maxRecDepth 100000
theorem z6p(n:Nat):PN.zero.raw n=true:=by
 refine PN.raw_mono (n:=0) ?_ (Nat.zero_le _)
 kernel_rfl
theorem zbY{v:VN}{n:Nat}(t:Int)(f:Bool)(h:v.raw n=true):(zbE v t f).raw (2*n+5)=true:=zrA t f h
theorem zbS{v:VN}{k:RN}{n:Nat}(hv:v.raw n=true)(hk:k.raw n=true):(z0A v k).raw (n+n+1)=true:=by
 refine z7I ?_
 have hk':=z1B hk
 cases ev:toV v with
 |none=>exact Nat.zero_le _
 |some a=>
  cases ew:toO k with
  |none=>exact Nat.zero_le _
  |some b=>
   rw[ew]at hk'
   have hk':b.sz≤n:=hk'
   obtain⟨x,y,z⟩:=z1t ev hv
   have m1:=K.sz_mul a.x b
   have m2:=K.sz_mul a.y b
   have m3:=K.sz_mul a.z b
   show max (a.x*b).sz (max (a.y*b).sz (a.z*b).sz)≤n+n+1
   omega
theorem zeb{v w:VN}{n:Nat}(hv:v.raw n=true)(hw:w.raw n=true):(zas v w).raw (6*n+5)=true:=by
 refine z0N ?_
 cases ev:toV v with
 |none=>exact Nat.zero_le _
 |some a=>
  cases ew:toV w with
  |none=>exact Nat.zero_le _
  |some b=>
   obtain⟨x,y,z⟩:=z1t ev hv
   obtain⟨x',y',z'⟩:=z1t ew hw
   have m1:=K.sz_mul a.x b.x
   have m2:=K.sz_mul a.y b.y
   have m3:=K.sz_mul a.z b.z
   have m4:=K.sz_add (a.x*b.x) (a.y*b.y)
   have m5:=K.sz_add (a.x*b.x+a.y*b.y) (a.z*b.z)
   show(a.x*b.x+a.y*b.y+a.z*b.z).sz≤6*n+5
   omega
end Go.Fw
open Go
namespace Go.Fw
set_option maxRecDepth 100000
theorem z9g{x k:K}(hk:K.sgn k=1):K.sgn (x*k)=K.sgn x:=by rw[K.sgn_mul,hk,Int.mul_one]
theorem z8K{x k:K}(h:x≠0)(hk:K.sgn k=1):x*k≠0:=fun e=>h (K.sgn_zero.1 (by rw[←z9g hk,e];exact K.sgn_zero.2 rfl))
end Go.Fw
open Go
namespace Go.Fw
set_option maxRecDepth 100000
theorem zeF{x:RN}{n:Nat}(h1:1≤n)(hx:x.raw n=true):(z8O x).raw (8*n+7)=true:=z9W (RN.raw_mono z5T h1) (z64 hx)
theorem z6x{p:PN}{x:RN}{n:Nat}(h1:1≤n)(hp:p.raw n=true)(hx:x.raw n=true):(z3J p x).raw (16*n+15)=true:=by
 obtain⟨hn,hd⟩:=PN.raw_iff.1 hp
 have hk:=zeF h1 hx
 have b1:=zbS (VN.raw_mono hn (show n≤8*n+7 by omega)) hk
 have b2:=z5O (RN.raw_mono hd (show n≤8*n+7 by omega)) hk
 exact PN.raw_iff.2 ⟨VN.raw_mono b1 (by omega),RN.raw_mono b2 (by omega)⟩
theorem zlE{p:PN}{n:Nat}(h1:1≤n)(hp:p.raw n=true):(can p).1.raw (16*n+15)=true:=by
 obtain⟨hn,_⟩:=PN.raw_iff.1 hp
 obtain⟨hx,hy,hz⟩:=Y6.1 hn
 unfold can
 split
 · exact z6x h1 hp hx
 · split
   · exact z6x h1 hp hy
   · split
     · exact z6x h1 hp hz
     · exact z6p _
end Go.Fw
open Go
namespace Go.Fw
set_option maxRecDepth 100000
theorem zgR(a b c d:Int)(h: ∃n,1≤n∧n≤500000000∧By4 n a b c d):PCall P 130 [.agg [.lit (.bool false),.lit (.string (bytesOf 1)),.lit (.bool false),.lit (.string ⟨#[]⟩),.lit (.bool false),.lit (.string ⟨#[]⟩),.lit (.bool false),.lit (.string ⟨#[]⟩)],c4C a b c d] (c4C a b c d):=by
 obtain⟨n,h1,hn,hb⟩:=h
 have z:By n 0:=by unfold By;exact Nat.pow_pos (by decide)
 have o:By n 1:=(show By 1 1 by unfold By;decide).mono h1
 have:=z3Y 1 0 0 0 a b c d ⟨n,hn,⟨o,z,z,z⟩,hb⟩
 rw[show 1*a+2*0*b+3*0*c+6*0*d=a by omega,show 1*b+0*a+3*0*d+3*0*c=b by omega,show 1*c+0*a+2*0*d+2*0*b=c by omega,show 1*d+0*a+0*c+0*b=d by omega]at this
 exact this
structure Q4 where
 a:Int
 b:Int
 c:Int
 d:Int
namespace Q4
def mul(x y:Q4):Q4:=⟨x.a*y.a+2*x.b*y.b+3*x.c*y.c+6*x.d*y.d,x.a*y.b+x.b*y.a+3*x.c*y.d+3*x.d*y.c,x.a*y.c+x.c*y.a+2*x.b*y.d+2*x.d*y.b,x.a*y.d+x.d*y.a+x.b*y.c+x.c*y.b⟩
def Sm(n:Nat)(x:Q4):Prop:=By4 n x.a x.b x.c x.d
end Q4
noncomputable def Y0(x y:Q4):Q4:=Classical.choose (⟨Q4.mul x y,rfl⟩: ∃z,z=Q4.mul x y)
theorem z6o(x y:Q4):Y0 x y=Q4.mul x y:=Classical.choose_spec (⟨Q4.mul x y,rfl⟩: ∃z,z=Q4.mul x y)
theorem z7x (a0 a1 a2 a3 b0 b1 b2 b3 : Int) (hp : ∃ n, n ≤ 500000000 ∧ Q4.Sm n ⟨a0, a1, a2, a3⟩ ∧ Q4.Sm n ⟨b0, b1, b2, b3⟩) : PCall P 130 [c4C a0 a1 a2 a3, c4C b0 b1 b2 b3]
    (c4C (Y0 ⟨a0,a1,a2,a3⟩ ⟨b0,b1,b2,b3⟩).a (Y0 ⟨a0,a1,a2,a3⟩ ⟨b0,b1,b2,b3⟩).b (Y0 ⟨a0,a1,a2,a3⟩ ⟨b0,b1,b2,b3⟩).c (Y0 ⟨a0,a1,a2,a3⟩ ⟨b0,b1,b2,b3⟩).d):=by
 rw[z6o]
 exact z3Y a0 a1 a2 a3 b0 b1 b2 b3 hp
theorem zfm (A : Q4) (b0 b1 b2 b3 : Int) (hp : ∃ n, n ≤ 500000000 ∧ Q4.Sm n A ∧ Q4.Sm n ⟨b0, b1, b2, b3⟩) : PCall P 130 [c4C A.a A.b A.c A.d, c4C b0 b1 b2 b3]
    (c4C (Y0 A ⟨b0,b1,b2,b3⟩).a (Y0 A ⟨b0,b1,b2,b3⟩).b (Y0 A ⟨b0,b1,b2,b3⟩).c (Y0 A ⟨b0,b1,b2,b3⟩).d):=z7x A.a A.b A.c A.d b0 b1 b2 b3 hp
theorem zaA (a0 a1 a2 a3 : Int) (B : Q4) (hp : ∃ n, n ≤ 500000000 ∧ Q4.Sm n ⟨a0, a1, a2, a3⟩ ∧ Q4.Sm n B) : PCall P 130 [c4C a0 a1 a2 a3, c4C B.a B.b B.c B.d]
    (c4C (Y0 ⟨a0,a1,a2,a3⟩ B).a (Y0 ⟨a0,a1,a2,a3⟩ B).b (Y0 ⟨a0,a1,a2,a3⟩ B).c (Y0 ⟨a0,a1,a2,a3⟩ B).d):=z7x a0 a1 a2 a3 B.a B.b B.c B.d hp
end Go.Fw
open Go IntKind
namespace Go.Fw
set_option maxRecDepth 100000
theorem zgk(x y:K)(g:(y.sgn==0)=false)(s5_0:x.sz≤1000000)(s9_0 s15_0:y.sz≤1000000)(s19_0:(-9223372036854775808:Int)≤1∧(1:Int)≤9223372036854775807)(s125_0: ∃n,1≤n∧n≤500000000∧By4 n y.c0 (-y.c1) y.c2 (-y.c3))(s231_0: ∃n,n≤500000000∧Q4.Sm n {a:=y.c0,b:= -y.c1,c:=y.c2,d:= -y.c3}∧Q4.Sm n {a:=y.c0,b:=y.c1,c:= -y.c2,d:= -y.c3})(s337_0: ∃n,n≤500000000∧Q4.Sm n (Y0 {a:=y.c0,b:= -y.c1,c:=y.c2,d:= -y.c3} {a:=y.c0,b:=y.c1,c:= -y.c2,d:= -y.c3})∧Q4.Sm n {a:=y.c0,b:= -y.c1,c:= -y.c2,d:=y.c3})(s349_0: ∃n,n≤500000000∧Q4.Sm n {a:=y.c0,b:=y.c1,c:=y.c2,d:=y.c3}∧Q4.Sm n (Y0 (Y0 {a:=y.c0,b:= -y.c1,c:=y.c2,d:= -y.c3} {a:=y.c0,b:=y.c1,c:= -y.c2,d:= -y.c3}) {a:=y.c0,b:= -y.c1,c:= -y.c2,d:=y.c3}))(s355_0: ∃n,n≤500000000∧Q4.Sm n {a:=x.c0,b:=x.c1,c:=x.c2,d:=x.c3}∧Q4.Sm n (Y0 (Y0 {a:=y.c0,b:= -y.c1,c:=y.c2,d:= -y.c3} {a:=y.c0,b:=y.c1,c:= -y.c2,d:= -y.c3}) {a:=y.c0,b:= -y.c1,c:= -y.c2,d:=y.c3}))(s369_0:Two (Y0 {a:=x.c0,b:=x.c1,c:=x.c2,d:=x.c3} (Y0 (Y0 {a:=y.c0,b:= -y.c1,c:=y.c2,d:= -y.c3} {a:=y.c0,b:=y.c1,c:= -y.c2,d:= -y.c3}) {a:=y.c0,b:= -y.c1,c:= -y.c2,d:=y.c3})).a y.d)(s385_0:Two (Y0 {a:=x.c0,b:=x.c1,c:=x.c2,d:=x.c3} (Y0 (Y0 {a:=y.c0,b:= -y.c1,c:=y.c2,d:= -y.c3} {a:=y.c0,b:=y.c1,c:= -y.c2,d:= -y.c3}) {a:=y.c0,b:= -y.c1,c:= -y.c2,d:=y.c3})).b y.d)(s401_0:Two (Y0 {a:=x.c0,b:=x.c1,c:=x.c2,d:=x.c3} (Y0 (Y0 {a:=y.c0,b:= -y.c1,c:=y.c2,d:= -y.c3} {a:=y.c0,b:=y.c1,c:= -y.c2,d:= -y.c3}) {a:=y.c0,b:= -y.c1,c:= -y.c2,d:=y.c3})).c y.d)(s417_0:Two (Y0 {a:=x.c0,b:=x.c1,c:=x.c2,d:=x.c3} (Y0 (Y0 {a:=y.c0,b:= -y.c1,c:=y.c2,d:= -y.c3} {a:=y.c0,b:=y.c1,c:= -y.c2,d:= -y.c3}) {a:=y.c0,b:= -y.c1,c:= -y.c2,d:=y.c3})).d y.d)(s432_0:Two (Y0 {a:=y.c0,b:=y.c1,c:=y.c2,d:=y.c3} (Y0 (Y0 {a:=y.c0,b:= -y.c1,c:=y.c2,d:= -y.c3} {a:=y.c0,b:=y.c1,c:= -y.c2,d:= -y.c3}) {a:=y.c0,b:= -y.c1,c:= -y.c2,d:=y.c3})).a x.d)(s433_0:(Y0 {a:=y.c0,b:=y.c1,c:=y.c2,d:=y.c3} (Y0 (Y0 {a:=y.c0,b:= -y.c1,c:=y.c2,d:= -y.c3} {a:=y.c0,b:=y.c1,c:= -y.c2,d:= -y.c3}) {a:=y.c0,b:= -y.c1,c:= -y.c2,d:=y.c3})).a*x.d≠0)(s433_1:SmlZ ((Y0 {a:=x.c0,b:=x.c1,c:=x.c2,d:=x.c3} (Y0 (Y0 {a:=y.c0,b:= -y.c1,c:=y.c2,d:= -y.c3} {a:=y.c0,b:=y.c1,c:= -y.c2,d:= -y.c3}) {a:=y.c0,b:= -y.c1,c:= -y.c2,d:=y.c3})).a*y.d))(s433_2:SmlZ ((Y0 {a:=x.c0,b:=x.c1,c:=x.c2,d:=x.c3} (Y0 (Y0 {a:=y.c0,b:= -y.c1,c:=y.c2,d:= -y.c3} {a:=y.c0,b:=y.c1,c:= -y.c2,d:= -y.c3}) {a:=y.c0,b:= -y.c1,c:= -y.c2,d:=y.c3})).b*y.d))(s433_3:SmlZ ((Y0 {a:=x.c0,b:=x.c1,c:=x.c2,d:=x.c3} (Y0 (Y0 {a:=y.c0,b:= -y.c1,c:=y.c2,d:= -y.c3} {a:=y.c0,b:=y.c1,c:= -y.c2,d:= -y.c3}) {a:=y.c0,b:= -y.c1,c:= -y.c2,d:=y.c3})).c*y.d))(s433_4:SmlZ ((Y0 {a:=x.c0,b:=x.c1,c:=x.c2,d:=x.c3} (Y0 (Y0 {a:=y.c0,b:= -y.c1,c:=y.c2,d:= -y.c3} {a:=y.c0,b:=y.c1,c:= -y.c2,d:= -y.c3}) {a:=y.c0,b:= -y.c1,c:= -y.c2,d:=y.c3})).d*y.d))(s433_5:SmlZ ((Y0 {a:=y.c0,b:=y.c1,c:=y.c2,d:=y.c3} (Y0 (Y0 {a:=y.c0,b:= -y.c1,c:=y.c2,d:= -y.c3} {a:=y.c0,b:=y.c1,c:= -y.c2,d:= -y.c3}) {a:=y.c0,b:= -y.c1,c:= -y.c2,d:=y.c3})).a*x.d)):PCall P 161 [Q8 x,Q8 y] (.tup [Q8 (K.of ((Y0 {a:=x.c0,b:=x.c1,c:=x.c2,d:=x.c3} (Y0 (Y0 {a:=y.c0,b:= -y.c1,c:=y.c2,d:= -y.c3} {a:=y.c0,b:=y.c1,c:= -y.c2,d:= -y.c3}) {a:=y.c0,b:= -y.c1,c:= -y.c2,d:=y.c3})).a*y.d) ((Y0 {a:=x.c0,b:=x.c1,c:=x.c2,d:=x.c3} (Y0 (Y0 {a:=y.c0,b:= -y.c1,c:=y.c2,d:= -y.c3} {a:=y.c0,b:=y.c1,c:= -y.c2,d:= -y.c3}) {a:=y.c0,b:= -y.c1,c:= -y.c2,d:=y.c3})).b*y.d) ((Y0 {a:=x.c0,b:=x.c1,c:=x.c2,d:=x.c3} (Y0 (Y0 {a:=y.c0,b:= -y.c1,c:=y.c2,d:= -y.c3} {a:=y.c0,b:=y.c1,c:= -y.c2,d:= -y.c3}) {a:=y.c0,b:= -y.c1,c:= -y.c2,d:=y.c3})).c*y.d) ((Y0 {a:=x.c0,b:=x.c1,c:=x.c2,d:=x.c3} (Y0 (Y0 {a:=y.c0,b:= -y.c1,c:=y.c2,d:= -y.c3} {a:=y.c0,b:=y.c1,c:= -y.c2,d:= -y.c3}) {a:=y.c0,b:= -y.c1,c:= -y.c2,d:=y.c3})).d*y.d) ((Y0 {a:=y.c0,b:=y.c1,c:=y.c2,d:=y.c3} (Y0 (Y0 {a:=y.c0,b:= -y.c1,c:=y.c2,d:= -y.c3} {a:=y.c0,b:=y.c1,c:= -y.c2,d:= -y.c3}) {a:=y.c0,b:= -y.c1,c:= -y.c2,d:=y.c3})).a*x.d)),.lit (.int .i64 0)]):=
 j3 (.r 5 (z0n (x) s5_0) (.r 9 (z0n (y) s9_0) (.r 15 (z9x (y) s15_0) (.b 18 g (.r 19 (Y7 ((1:Int)) s19_0) (.c (lq 8 8) (.c (lq 8 8) (.c (bq 1 4) (.r 70 (V6 (y.c1)) (.c (bq 1 4) (.c (lq 4 8) (.c (bq 3 4) (.r 113 (V6 (y.c3)) (.c (bq 3 4) (.c (lq 8 8) (.r 125 (zgR (y.c0) (-y.c1) (y.c2) (-y.c3) s125_0) (.c (lq 8 8) (.c (lq 8 8) (.c (bq 2 4) (.r 194 (V6 (y.c2)) (.c (bq 2 4) (.c (lq 6 8) (.c (bq 3 4) (.r 219 (V6 (y.c3)) (.c (bq 3 4) (.c (lq 8 8) (.r 231 (z7x (y.c0) (-y.c1) (y.c2) (-y.c3) (y.c0) (y.c1) (-y.c2) (-y.c3) s231_0) (.c (lq 8 8) (.c (lq 8 8) (.c (bq 1 4) (.r 282 (V6 (y.c1)) (.c (bq 1 4) (.c (lq 4 8) (.c (bq 2 4) (.r 307 (V6 (y.c2)) (.c (bq 2 4) (.c (lq 6 8) (.r 337 (zfm (Y0 {a:=y.c0,b:= -y.c1,c:=y.c2,d:= -y.c3} {a:=y.c0,b:=y.c1,c:= -y.c2,d:= -y.c3}) (y.c0) (-y.c1) (-y.c2) (y.c3) s337_0) (.c (lq 8 8) (.r 349 (zaA (y.c0) (y.c1) (y.c2) (y.c3) (Y0 (Y0 {a:=y.c0,b:= -y.c1,c:=y.c2,d:= -y.c3} {a:=y.c0,b:=y.c1,c:= -y.c2,d:= -y.c3}) {a:=y.c0,b:= -y.c1,c:= -y.c2,d:=y.c3}) s349_0) (.c (lq 8 8) (.r 355 (zaA (x.c0) (x.c1) (x.c2) (x.c3) (Y0 (Y0 {a:=y.c0,b:= -y.c1,c:=y.c2,d:= -y.c3} {a:=y.c0,b:=y.c1,c:= -y.c2,d:= -y.c3}) {a:=y.c0,b:= -y.c1,c:= -y.c2,d:=y.c3}) s355_0) (.c (lq 8 8) (.c (bq 0 4) (.r 369 (z5c ((Y0 {a:=x.c0,b:=x.c1,c:=x.c2,d:=x.c3} (Y0 (Y0 {a:=y.c0,b:= -y.c1,c:=y.c2,d:= -y.c3} {a:=y.c0,b:=y.c1,c:= -y.c2,d:= -y.c3}) {a:=y.c0,b:= -y.c1,c:= -y.c2,d:=y.c3})).a) (y.d) s369_0) (.c (bq 0 4) (.c (lq 2 8) (.c (bq 1 4) (.r 385 (z5c ((Y0 {a:=x.c0,b:=x.c1,c:=x.c2,d:=x.c3} (Y0 (Y0 {a:=y.c0,b:= -y.c1,c:=y.c2,d:= -y.c3} {a:=y.c0,b:=y.c1,c:= -y.c2,d:= -y.c3}) {a:=y.c0,b:= -y.c1,c:= -y.c2,d:=y.c3})).b) (y.d) s385_0) (.c (bq 1 4) (.c (lq 4 8) (.c (bq 2 4) (.r 401 (z5c ((Y0 {a:=x.c0,b:=x.c1,c:=x.c2,d:=x.c3} (Y0 (Y0 {a:=y.c0,b:= -y.c1,c:=y.c2,d:= -y.c3} {a:=y.c0,b:=y.c1,c:= -y.c2,d:= -y.c3}) {a:=y.c0,b:= -y.c1,c:= -y.c2,d:=y.c3})).c) (y.d) s401_0) (.c (bq 2 4) (.c (lq 6 8) (.c (bq 3 4) (.r 417 (z5c ((Y0 {a:=x.c0,b:=x.c1,c:=x.c2,d:=x.c3} (Y0 (Y0 {a:=y.c0,b:= -y.c1,c:=y.c2,d:= -y.c3} {a:=y.c0,b:=y.c1,c:= -y.c2,d:= -y.c3}) {a:=y.c0,b:= -y.c1,c:= -y.c2,d:=y.c3})).d) (y.d) s417_0) (.c (bq 3 4) (.c (lq 8 8) (.c (bq 0 4) (.r 432 (z5c ((Y0 {a:=y.c0,b:=y.c1,c:=y.c2,d:=y.c3} (Y0 (Y0 {a:=y.c0,b:= -y.c1,c:=y.c2,d:= -y.c3} {a:=y.c0,b:=y.c1,c:= -y.c2,d:= -y.c3}) {a:=y.c0,b:= -y.c1,c:= -y.c2,d:=y.c3})).a) (x.d) s432_0) (.r 433 (z8H ((Y0 {a:=x.c0,b:=x.c1,c:=x.c2,d:=x.c3} (Y0 (Y0 {a:=y.c0,b:= -y.c1,c:=y.c2,d:= -y.c3} {a:=y.c0,b:=y.c1,c:= -y.c2,d:= -y.c3}) {a:=y.c0,b:= -y.c1,c:= -y.c2,d:=y.c3})).a*y.d) ((Y0 {a:=x.c0,b:=x.c1,c:=x.c2,d:=x.c3} (Y0 (Y0 {a:=y.c0,b:= -y.c1,c:=y.c2,d:= -y.c3} {a:=y.c0,b:=y.c1,c:= -y.c2,d:= -y.c3}) {a:=y.c0,b:= -y.c1,c:= -y.c2,d:=y.c3})).b*y.d) ((Y0 {a:=x.c0,b:=x.c1,c:=x.c2,d:=x.c3} (Y0 (Y0 {a:=y.c0,b:= -y.c1,c:=y.c2,d:= -y.c3} {a:=y.c0,b:=y.c1,c:= -y.c2,d:= -y.c3}) {a:=y.c0,b:= -y.c1,c:= -y.c2,d:=y.c3})).c*y.d) ((Y0 {a:=x.c0,b:=x.c1,c:=x.c2,d:=x.c3} (Y0 (Y0 {a:=y.c0,b:= -y.c1,c:=y.c2,d:= -y.c3} {a:=y.c0,b:=y.c1,c:= -y.c2,d:= -y.c3}) {a:=y.c0,b:= -y.c1,c:= -y.c2,d:=y.c3})).d*y.d) ((Y0 {a:=y.c0,b:=y.c1,c:=y.c2,d:=y.c3} (Y0 (Y0 {a:=y.c0,b:= -y.c1,c:=y.c2,d:= -y.c3} {a:=y.c0,b:=y.c1,c:= -y.c2,d:= -y.c3}) {a:=y.c0,b:= -y.c1,c:= -y.c2,d:=y.c3})).a*x.d) s433_0 s433_1 s433_2 s433_3 s433_4 s433_5) (.c (lq 10 10) .nil))))))))))))))))))))))))))))))))))))))))))))))))))))))))))))))) (by kernel_rfl)
end Go.Fw
open Go
namespace Go.Fw
set_option maxRecDepth 100000
def oq(A:Q4)(d:Int):K:=K.of A.a A.b A.c A.d d
theorem zaD{A B:Q4}{d e:Int}(hd:d≠0)(he:e≠0):oq A d*oq B e=oq (Q4.mul A B) (d*e):=K.mul_of hd he
def qK(x:K):Q4:=⟨x.c0,x.c1,x.c2,x.c3⟩
theorem zkj(x:K):oq (qK x) x.d=x:=K.of_self x
def cj1(y:Q4):Q4:=⟨y.a,-y.b,y.c,-y.d⟩
def cj2(y:Q4):Q4:=⟨y.a,y.b,-y.c,-y.d⟩
def cj3(y:Q4):Q4:=⟨y.a,-y.b,-y.c,y.d⟩
def z0W(y:Q4):Q4:=Q4.mul (Q4.mul (cj1 y) (cj2 y)) (cj3 y)
theorem z9Y(y:Q4):(Q4.mul y (z0W y)).b=0∧(Q4.mul y (z0W y)).c=0∧(Q4.mul y (z0W y)).d=0:=by
 obtain⟨a,b,c,d⟩:=y
 refine⟨?_,?_,?_⟩
 · show a*_+b*_+3*c*_+3*d*_=0
   simp only[z0W,Q4.mul,cj1,cj2,cj3]
   grind
 · show a*_+c*_+2*b*_+2*d*_=0
   simp only[z0W,Q4.mul,cj1,cj2,cj3]
   grind
 · show a*_+d*_+b*_+c*_=0
   simp only[z0W,Q4.mul,cj1,cj2,cj3]
   grind
theorem zma(x y c:Q4):Q4.mul y (Q4.mul x c)=Q4.mul x (Q4.mul y c):=by
 obtain⟨a,b,e,d⟩:=x
 obtain⟨a',b',e',d'⟩:=y
 obtain⟨p,q,r,s⟩:=c
 simp only[Q4.mul,Q4.mk.injEq]
 refine⟨?_,?_,?_,?_⟩<;>grind
theorem za7{A:Q4}(h:oq A 1=0):A.a=0∧A.b=0∧A.c=0∧A.d=0:=by
 obtain⟨s,_,h0,h1,h2,h3,_⟩:=K.of_spec A.a A.b A.c A.d (d:=1) (by decide)
 have e:K.of A.a A.b A.c A.d 1=0:=h
 rw[e]at h0 h1 h2 h3
 exact⟨h0.trans (Int.mul_zero s),h1.trans (Int.mul_zero s),h2.trans (Int.mul_zero s),h3.trans (Int.mul_zero s)⟩
theorem zaI{y:K}(h0:y.c0=0)(h1:y.c1=0)(h2:y.c2=0)(h3:y.c3=0):y=0:=by
 refine K.cross ?_ ?_ ?_ ?_
 · rw[h0,Int.zero_mul];exact(Int.zero_mul y.d).symm
 · rw[h1,Int.zero_mul];exact(Int.zero_mul y.d).symm
 · rw[h2,Int.zero_mul];exact(Int.zero_mul y.d).symm
 · rw[h3,Int.zero_mul];exact(Int.zero_mul y.d).symm
theorem z9G{x y:K}(hx:x≠0)(hy:y≠0):x*y≠0:=fun e=>by
 have:K.sgn (x*y)=0:=K.sgn_zero.2 e
 rw[K.sgn_mul]at this
 rcases Int.mul_eq_zero.1 this with h|h
 · exact hx (K.sgn_zero.1 h)
 · exact hy (K.sgn_zero.1 h)
theorem zel(y:Q4):oq (Q4.mul y (z0W y)) 1=oq y 1*((oq (cj1 y) 1*oq (cj2 y) 1)*oq (cj3 y) 1):=by
 have o:(1:Int)≠0:=by decide
 have e1:oq (cj1 y) 1*oq (cj2 y) 1=oq (Q4.mul (cj1 y) (cj2 y)) 1:=zaD o o
 have e2:oq (Q4.mul (cj1 y) (cj2 y)) 1*oq (cj3 y) 1=oq (z0W y) 1:=zaD o o
 have e3:oq y 1*oq (z0W y) 1=oq (Q4.mul y (z0W y)) 1:=zaD o o
 rw[e1,e2,e3]
theorem zcJ{y:K}(h:y≠0):(Q4.mul (qK y) (z0W (qK y))).a≠0:=by
 intro e
 obtain⟨h1,h2,h3⟩:=z9Y (qK y)
 have z:oq (Q4.mul (qK y) (z0W (qK y))) 1=0:=by
  unfold oq
  rw[e,h1,h2,h3];kernel_rfl
 rw[zel]at z
 have n0:oq (qK y) 1≠0:=fun z=>by obtain⟨a,b,c,d⟩:=za7 z;exact h (zaI a b c d)
 have n1:oq (cj1 (qK y)) 1≠0:=fun z=>by obtain⟨a,b,c,d⟩:=za7 z;exact h (zaI a (Int.neg_eq_zero.1 b) c (Int.neg_eq_zero.1 d))
 have n2:oq (cj2 (qK y)) 1≠0:=fun z=>by obtain⟨a,b,c,d⟩:=za7 z;exact h (zaI a b (Int.neg_eq_zero.1 c) (Int.neg_eq_zero.1 d))
 have n3:oq (cj3 (qK y)) 1≠0:=fun z=>by obtain⟨a,b,c,d⟩:=za7 z;exact h (zaI a (Int.neg_eq_zero.1 b) (Int.neg_eq_zero.1 c) d)
 exact z9G n0 (z9G (z9G n1 n2) n3) z
def z3p(A:Q4)(k:Int):Q4:=⟨A.a*k,A.b*k,A.c*k,A.d*k⟩
theorem zs1{x n:Q4}(h1:n.b=0)(h2:n.c=0)(h3:n.d=0):Q4.mul x n=z3p x n.a:=by
 obtain⟨a,b,c,d⟩:=x
 obtain⟨p,q,r,s⟩:=n
 simp only at h1 h2 h3
 subst h1 h2 h3
 simp only[Q4.mul,z3p,Q4.mk.injEq]
 refine⟨?_,?_,?_,?_⟩<;>grind
theorem z9U(x y:Q4)(k:Int):Q4.mul x (z3p y k)=z3p (Q4.mul x y) k:=by
 obtain⟨a,b,c,d⟩:=x
 obtain⟨p,q,r,s⟩:=y
 simp only[Q4.mul,z3p,Q4.mk.injEq]
 refine⟨?_,?_,?_,?_⟩<;>grind
theorem ziD{x y:K}(h:y≠0):oq (z3p (Q4.mul (qK x) (z0W (qK y))) y.d) ((Q4.mul (qK y) (z0W (qK y))).a*x.d)=K.div x y:=by
 have hN:=zcJ h
 have yd:y.d≠0:=by have:=y.pos;omega
 have xd:x.d≠0:=by have:=x.pos;omega
 have hE:(Q4.mul (qK y) (z0W (qK y))).a*x.d≠0:=fun e=>by
  rcases Int.mul_eq_zero.1 e with e|e
  · exact hN e
  · exact xd e
 refine(K.div_eq h ?_).symm
 obtain⟨h1,h2,h3⟩:=z9Y (qK y)
 have e1:y*oq (z3p (Q4.mul (qK x) (z0W (qK y))) y.d) ((Q4.mul (qK y) (z0W (qK y))).a*x.d)=oq (Q4.mul (qK y) (z3p (Q4.mul (qK x) (z0W (qK y))) y.d)) (y.d*((Q4.mul (qK y) (z0W (qK y))).a*x.d)):=by
  have:=zaD (A:=qK y) (B:=z3p (Q4.mul (qK x) (z0W (qK y))) y.d) yd hE
  rw[zkj]at this
  exact this
 rw[e1,z9U,zma,zs1 h1 h2 h3]
 generalize (Q4.mul (qK y) (z0W (qK y))).a=N at*
 have:=K.of_scale (s:=y.d*N) (a0:=x.c0) (a1:=x.c1) (a2:=x.c2) (a3:=x.c3) (d:=x.d) (fun e=>by
  rcases Int.mul_eq_zero.1 e with e|e
  · exact yd e
  · exact hN e) xd
 rw[K.of_self]at this
 refine Eq.trans ?_ this
 show K.of (x.c0*N*y.d) (x.c1*N*y.d) (x.c2*N*y.d) (x.c3*N*y.d) (y.d*(N*x.d))=_
 have c: ∀t:Int,t*N*y.d=y.d*N*t:=fun t=>by grind
 rw[c,c,c,c,show y.d*(N*x.d)=y.d*N*x.d by grind]
end Go.Fw
