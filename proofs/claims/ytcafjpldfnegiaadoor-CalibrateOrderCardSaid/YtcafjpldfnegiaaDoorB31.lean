/- A part of the proof that the law returns true for every input: an executor for the model's code, and what functions of the program compute. -/
import Derived.Test.YtcafjpldfnegiaaDoorB10
import Derived.Test.YtcafjpldfnegiaaDoorB11
import Derived.Test.YtcafjpldfnegiaaDoorB15
import Derived.Test.YtcafjpldfnegiaaDoorB16
import Derived.Test.YtcafjpldfnegiaaDoorB24
import Derived.Test.YtcafjpldfnegiaaDoorB26
import Derived.Test.YtcafjpldfnegiaaDoorB29
import Derived.Test.YtcafjpldfnegiaaDoorB30
import Derived.KernelRfl
import Derived.OrdersIn
import Derived.RangeFuncCalls
import Derived.Deep.Slices
open Go IntKind
namespace Go.Fw
set_option maxRecDepth 100000
def Two(a b:Int):Prop:= ∃n,n≤500000000∧By n a∧By n b
theorem z10(k a b:Int)(hk: -100≤k∧k≤100)(h:Two a b):PCall P 33 [J1 k,Q2 a,Q2 b] (Q2 (k*(a*b))):=by
 obtain⟨n,hn,ha,hb⟩:=h
 exact z6e k a b hk ha hb (by omega)
theorem z87(a b:Int)(h:Two a b):PCall P 51 [Q2 a,Q2 b] (J1 (a-b).sign):=by
 obtain⟨n,hn,ha,hb⟩:=h
 exact zeu a b (ha.sml (by omega)) (hb.sml (by omega)) (ha.sma hb (by omega))
theorem zfI(a b:Int)(h:Two a b):PCall P 39 [Q2 a,Q2 b] (Q2 (a*b)):=by
 obtain⟨n,hn,ha,hb⟩:=h
 exact W1 a b (ha.sml (by omega)) (hb.sml (by omega)) (ha.sm2 hb (by omega))
theorem zbC(a b:Int)(h:Two a b):PCall P 32 [Q2 a,Q2 b] (Q2 (a+b)):=by
 obtain⟨n,hn,ha,hb⟩:=h
 exact z0Q a b (ha.sml (by omega)) (hb.sml (by omega)) (ha.sma hb (by omega))
theorem zbD(a b:Int)(h:Two a b):PCall P 31 [Q2 a,Q2 b] (Q2 (a-b)):=by
 obtain⟨n,hn,ha,hb⟩:=h
 exact z74 a b (ha.sml (by omega)) (hb.sml (by omega)) (ha.sma hb (by omega))
theorem zfF(a b:Int)(c:Two a a)(d:(-100:Int)≤2∧(2:Int)≤100)(e:Two b b)(f:Two (a*a) ((2:Int)*(b*b)))(g:(-1:Int)≤a.sign∧a.sign≤1)(i:(-1:Int)≤(a*a-2*(b*b)).sign∧(a*a-2*(b*b)).sign≤1):PCall P 29 [Q2 a,Q2 b] (.lit (.int .i64 (z4s a.sign b.sign (a*a-2*(b*b)).sign))):=
 j3 (.r 4 (z05 a) (.r 6 (z05 b) (.r 9 (zfI a a c) (.r 12 (z10 (2:Int) b b d e) (.r 13 (z87 (a*a) ((2:Int)*(b*b)) f) (.r 14 (z15 a.sign b.sign ((a*a-2*(b*b)).sign) g i) .nil)))))) (by kernel_rfl)
def sg2(a b:Int):Int:=z4s a.sign b.sign (a*a-2*(b*b)).sign
theorem z3I(a:Int): -1≤a.sign∧a.sign≤1:=by
 rcases Int.lt_trichotomy a 0 with h|h|h
 · rw[Int.sign_eq_neg_one_of_neg h];decide
 · rw[h];decide
 · rw[Int.sign_eq_one_of_pos h];decide
theorem zcU{a b c:Int}(ha: -1≤a∧a≤1)(hb: -1≤b∧b≤1)(hc: -1≤c∧c≤1): -1≤z4s a b c∧z4s a b c≤1:=by
 unfold z4s
 split
 · exact ha
 · split
   · exact hb
   · have:a= -1∨a=0∨a=1:=by omega
     rcases this with h|h|h<;>rw[h]<;>omega
theorem zbQ(a b:Int): -1≤sg2 a b∧sg2 a b≤1:=zcU (z3I a) (z3I b) (z3I _)
def z82(a b:Int):Prop:= ∃n,n≤100000000∧By n a∧By n b
theorem By.two{a:Int}{n:Nat}(h:By n a):By (n+1) (2*a):=by
 have:By 1 2:=by unfold By;decide
 have:=this.mul h
 rwa[Nat.add_comm]at this
theorem z0e(a b:Int)(h:z82 a b):PCall P 29 [Q2 a,Q2 b] (J1 (sg2 a b)):=by
 obtain⟨n,hn,ha,hb⟩:=h
 exact zfF a b ⟨n,by omega,ha,ha⟩ (by decide) ⟨n,by omega,hb,hb⟩ ⟨n+n+1,by omega,(ha.mul ha).mono (by omega),(hb.mul hb).two⟩ (z3I _) (z3I _)
theorem zgm(x:K)(h1:(sg2 x.c0 x.c1==sg2 x.c2 x.c3)=true)(a:Smk x)(d:z82 x.c0 x.c1)(e:z82 x.c2 x.c3)(f:(-1:Int)≤sg2 x.c0 x.c1∧sg2 x.c0 x.c1≤1)(g:(-1:Int)≤0∧(0:Int)≤1):PCall P 16 [Z1 x] (.lit (.int .i64 (z4s (sg2 x.c0 x.c1) (sg2 x.c2 x.c3) (0:Int)))):=
 j3 (.r 3 (X3 x a) (.c (bq 0 4) (.c (bq 1 4) (.c (bq 2 4) (.c (bq 3 4) (.c (lq 2 2) (.c (lq 2 2) (.c (lq 2 2) (.c (lq 2 2) (.r 28 (z0e x.c0 x.c1 d) (.r 31 (z0e x.c2 x.c3 e) (.b 37 h1 (.r 48 (z15 (sg2 x.c0 x.c1) (sg2 x.c2 x.c3) (0:Int) f g) .nil))))))))))))) (by kernel_rfl)
theorem zf4(x:K)(h1:(sg2 x.c0 x.c1==sg2 x.c2 x.c3)=false)(h2:(sg2 x.c2 x.c3==0)=true)(a:Smk x)(d:z82 x.c0 x.c1)(e:z82 x.c2 x.c3)(f:(-1:Int)≤sg2 x.c0 x.c1∧sg2 x.c0 x.c1≤1)(g:(-1:Int)≤0∧(0:Int)≤1):PCall P 16 [Z1 x] (.lit (.int .i64 (z4s (sg2 x.c0 x.c1) (sg2 x.c2 x.c3) (0:Int)))):=
 j3 (.r 3 (X3 x a) (.c (bq 0 4) (.c (bq 1 4) (.c (bq 2 4) (.c (bq 3 4) (.c (lq 2 2) (.c (lq 2 2) (.c (lq 2 2) (.c (lq 2 2) (.r 28 (z0e x.c0 x.c1 d) (.r 31 (z0e x.c2 x.c3 e) (.b 37 h1 (.b 41 h2 (.r 48 (z15 (sg2 x.c0 x.c1) (sg2 x.c2 x.c3) (0:Int) f g) .nil)))))))))))))) (by kernel_rfl)
theorem zgl(x:K)(h1:(sg2 x.c0 x.c1==sg2 x.c2 x.c3)=false)(h2:(sg2 x.c2 x.c3==0)=false)(h3:(sg2 x.c0 x.c1==0)=true)(a:Smk x)(d:z82 x.c0 x.c1)(e:z82 x.c2 x.c3)(f:(-1:Int)≤sg2 x.c0 x.c1∧sg2 x.c0 x.c1≤1)(g:(-1:Int)≤0∧(0:Int)≤1):PCall P 16 [Z1 x] (.lit (.int .i64 (z4s (sg2 x.c0 x.c1) (sg2 x.c2 x.c3) (0:Int)))):=
 j3 (.r 3 (X3 x a) (.c (bq 0 4) (.c (bq 1 4) (.c (bq 2 4) (.c (bq 3 4) (.c (lq 2 2) (.c (lq 2 2) (.c (lq 2 2) (.c (lq 2 2) (.r 28 (z0e x.c0 x.c1 d) (.r 31 (z0e x.c2 x.c3 e) (.b 37 h1 (.b 41 h2 (.b 45 h3 (.r 48 (z15 (sg2 x.c0 x.c1) (sg2 x.c2 x.c3) (0:Int) f g) .nil))))))))))))))) (by kernel_rfl)
theorem zeQ(x:K)(h1:(sg2 x.c0 x.c1==sg2 x.c2 x.c3)=false)(h2:(sg2 x.c2 x.c3==0)=false)(h3:(sg2 x.c0 x.c1==0)=false)(a:Smk x)(d:z82 x.c0 x.c1)(e:z82 x.c2 x.c3)(f:(-100:Int)≤1∧(1:Int)≤100)(g:Two x.c0 x.c0)(i:(-100:Int)≤2∧(2:Int)≤100)(j:Two x.c1 x.c1)(k:Two ((1:Int)*(x.c0*x.c0)) ((2:Int)*(x.c1*x.c1)))(l:(-100:Int)≤3∧(3:Int)≤100)(m:Two x.c2 x.c2)(n:(-100:Int)≤6∧(6:Int)≤100)(o:Two x.c3 x.c3)(p:Two ((3:Int)*(x.c2*x.c2)) ((6:Int)*(x.c3*x.c3)))(q:Two ((1:Int)*(x.c0*x.c0)+2*(x.c1*x.c1)) ((3:Int)*(x.c2*x.c2)+6*(x.c3*x.c3)))(s:(-100:Int)≤2∧(2:Int)≤100)(t:Two x.c0 x.c1)(u:(-100:Int)≤6∧(6:Int)≤100)(v:Two x.c2 x.c3)(w:Two ((2:Int)*(x.c0*x.c1)) ((6:Int)*(x.c2*x.c3)))(y:z82 ((1:Int)*(x.c0*x.c0)+2*(x.c1*x.c1)-((3:Int)*(x.c2*x.c2)+6*(x.c3*x.c3))) ((2:Int)*(x.c0*x.c1)-6*(x.c2*x.c3)))(z:(-1:Int)≤sg2 x.c0 x.c1∧sg2 x.c0 x.c1≤1)(a0:(-1:Int)≤sg2 ((1:Int)*(x.c0*x.c0)+2*(x.c1*x.c1)-((3:Int)*(x.c2*x.c2)+6*(x.c3*x.c3))) ((2:Int)*(x.c0*x.c1)-6*(x.c2*x.c3))∧sg2 ((1:Int)*(x.c0*x.c0)+2*(x.c1*x.c1)-((3:Int)*(x.c2*x.c2)+6*(x.c3*x.c3))) ((2:Int)*(x.c0*x.c1)-6*(x.c2*x.c3))≤1):PCall P 16 [Z1 x] (.lit (.int .i64 (z4s (sg2 x.c0 x.c1) (sg2 x.c2 x.c3) (sg2 ((1:Int)*(x.c0*x.c0)+2*(x.c1*x.c1)-((3:Int)*(x.c2*x.c2)+6*(x.c3*x.c3))) ((2:Int)*(x.c0*x.c1)-6*(x.c2*x.c3)))))):=
 j3 (.r 3 (X3 x a) (.c (bq 0 4) (.c (bq 1 4) (.c (bq 2 4) (.c (bq 3 4) (.c (lq 2 2) (.c (lq 2 2) (.c (lq 2 2) (.c (lq 2 2) (.r 28 (z0e x.c0 x.c1 d) (.r 31 (z0e x.c2 x.c3 e) (.b 37 h1 (.b 41 h2 (.b 45 h3 (.r 48 (z10 (1:Int) x.c0 x.c0 f g) (.r 51 (z10 (2:Int) x.c1 x.c1 i j) (.r 52 (zbC ((1:Int)*(x.c0*x.c0)) ((2:Int)*(x.c1*x.c1)) k) (.r 55 (z10 (3:Int) x.c2 x.c2 l m) (.r 58 (z10 (6:Int) x.c3 x.c3 n o) (.r 59 (zbC ((3:Int)*(x.c2*x.c2)) ((6:Int)*(x.c3*x.c3)) p) (.r 60 (zbD ((1:Int)*(x.c0*x.c0)+2*(x.c1*x.c1)) ((3:Int)*(x.c2*x.c2)+6*(x.c3*x.c3)) q) (.c (lq 2 2) (.r 65 (z10 (2:Int) x.c0 x.c1 s t) (.r 68 (z10 (6:Int) x.c2 x.c3 u v) (.r 69 (zbD ((2:Int)*(x.c0*x.c1)) ((6:Int)*(x.c2*x.c3)) w) (.c (lq 2 2) (.r 76 (z0e ((1:Int)*(x.c0*x.c0)+2*(x.c1*x.c1)-((3:Int)*(x.c2*x.c2)+6*(x.c3*x.c3))) ((2:Int)*(x.c0*x.c1)-6*(x.c2*x.c3)) y) (.r 77 (z15 (sg2 x.c0 x.c1) (sg2 x.c2 x.c3) (sg2 ((1:Int)*(x.c0*x.c0)+2*(x.c1*x.c1)-((3:Int)*(x.c2*x.c2)+6*(x.c3*x.c3))) ((2:Int)*(x.c0*x.c1)-6*(x.c2*x.c3))) z a0) .nil)))))))))))))))))))))))))))) (by kernel_rfl)
section
variable{R:Type}[CR R][Sg R] {m:R}[im:Sg.Irr m]
theorem Adj.sg_mix(x:Adj R m):Adj.sg x=z4s (Sg.sg x.re) (Sg.sg x.im) (Sg.sg (Adj.nm x)):=by
 have hz:=Adj.nm_zero x
 rcases Sg.vals (Adj.nm x)with hn|hn|hn
 · -- the second part is the greater
   have hi:=Adj.im_ne hn
   have e:Adj.sg x=Sg.sg x.im:=by unfold Adj.sg;rw[hn,if_neg (by decide),if_pos rfl]
   rw[e,hn]
   unfold z4s
   rcases Sg.vals x.re with ha|ha|ha<;>rcases Sg.vals x.im with hb|hb|hb<;>rw[ha,hb]<;>first|rfl|exact absurd hb hi
 · have e:Adj.sg x=0:=by unfold Adj.sg;rw[hn,if_neg (by decide),if_neg (by decide)]
   have h0:=hz.1 hn
   have hr:Sg.sg x.re=0:=by rw[h0];exact(Sg.zero _).2 rfl
   have hi:Sg.sg x.im=0:=by rw[h0];exact(Sg.zero _).2 rfl
   rw[e,hr,hi];rfl
 · have hr:=Adj.re_ne hn
   have e:Adj.sg x=Sg.sg x.re:=by unfold Adj.sg;rw[hn,if_pos rfl]
   rw[e,hn]
   unfold z4s
   rcases Sg.vals x.re with ha|ha|ha<;>rcases Sg.vals x.im with hb|hb|hb<;>rw[ha,hb]<;>first|rfl|exact absurd ha hr
end
theorem z86(a b:Int):sg2 a b=Adj.sg (⟨a,b⟩:Z2):=by
 rw[Adj.sg_mix];rfl
theorem z2z{a b c c':Int}(h:a=b∨b=0∨a=0):z4s a b c=z4s a b c':=by
 unfold z4s
 rcases h with h|h|h
 · rw[if_pos (.inl h),if_pos (.inl h)]
 · rw[if_pos (.inr h),if_pos (.inr h)]
 · rw[if_pos h,if_pos h]
def zgM(x:K):Int:=z4s (sg2 x.c0 x.c1) (sg2 x.c2 x.c3) (sg2 (1*(x.c0*x.c0)+2*(x.c1*x.c1)-(3*(x.c2*x.c2)+6*(x.c3*x.c3))) (2*(x.c0*x.c1)-6*(x.c2*x.c3)))
theorem zc0(x:K):zgM x=K.sgn x:=by
 show _=Adj.sg (K.num x)
 rw[Adj.sg_mix]
 unfold zgM
 rw[z86,z86,z86]
 show z4s _ _ _=z4s (Adj.sg (K.num x).re) (Adj.sg (K.num x).im) (Adj.sg (Adj.nm (K.num x)))
 congr 2
 refine Adj.ext ?_ ?_
 · show 1*(x.c0*x.c0)+2*(x.c1*x.c1)-(3*(x.c2*x.c2)+6*(x.c3*x.c3))=x.c0*x.c0+2*(x.c1*x.c1)-(3*(x.c2*x.c2+2*(x.c3*x.c3))+2*(0*(x.c2*x.c3+x.c3*x.c2)))
   grind
 · show 2*(x.c0*x.c1)-6*(x.c2*x.c3)=x.c0*x.c1+x.c1*x.c0-(3*(x.c2*x.c3+x.c3*x.c2)+0*(x.c2*x.c2+2*(x.c3*x.c3)))
   grind
theorem By.k{a k:Int}{n:Nat}(hk: -100≤k∧k≤100)(h:By n a):By (n+1) (k*a):=by
 have:By 1 k:=by unfold By;omega
 have:=this.mul h
 rwa[Nat.add_comm]at this
theorem By.sub{a b:Int}{n:Nat}(h:By n a)(k:By n b):By (n+1) (a-b):=by
 have:=h.add k.neg
 rwa[←Int.sub_eq_add_neg]at this
theorem zcC(x:K)(hx:x.sz≤10000000):PCall P 16 [Z1 x] (J1 (K.sgn x)):=by
 obtain⟨x0,x1,x2,x3,_⟩:=By.of_sz hx
 have hs:Smk x:=by simp only[Smk];omega
 have t01:z82 x.c0 x.c1:=⟨_,by decide,x0,x1⟩
 have t23:z82 x.c2 x.c3:=⟨_,by decide,x2,x3⟩
 have b1:=zbQ x.c0 x.c1
 rw[←zc0]
 unfold zgM
 by_cases h1:sg2 x.c0 x.c1=sg2 x.c2 x.c3
 · rw[z2z (c':=0) (.inl h1)]
   exact zgm x (by simp[h1]) hs t01 t23 b1 (by decide)
 · by_cases h2:sg2 x.c2 x.c3=0
   · rw[z2z (c':=0) (.inr (.inl h2))]
     exact zf4 x (beq_false_of_ne h1) (by simp[h2]) hs t01 t23 b1 (by decide)
   · by_cases h3:sg2 x.c0 x.c1=0
     · rw[z2z (c':=0) (.inr (.inr h3))]
       exact zgl x (beq_false_of_ne h1) (beq_false_of_ne h2) (by simp[h3]) hs t01 t23 b1 (by decide)
     · obtain⟨n,hn,hy⟩: ∃n,n≤10000000∧x.sz≤n:=⟨_,Nat.le_refl _,hx⟩
       obtain⟨y0,y1,y2,y3,_⟩:=By.of_sz hy
       have tw: ∀{a b:Int},By n a→By n b→Two a b:=fun ha hb=>⟨n,by omega,ha,hb⟩
       have q0:=(y0.mul y0).k (k:=1) (by decide)
       have q1:=(y1.mul y1).k (k:=2) (by decide)
       have q2:=(y2.mul y2).k (k:=3) (by decide)
       have q3:=(y3.mul y3).k (k:=6) (by decide)
       have r1:=(y0.mul y1).k (k:=2) (by decide)
       have r2:=(y2.mul y3).k (k:=6) (by decide)
       have u1:=q0.add q1
       have u2:=q2.add q3
       exact zeQ x (beq_false_of_ne h1) (beq_false_of_ne h2) (beq_false_of_ne h3) hs t01 t23 (by decide) (tw y0 y0) (by decide) (tw y1 y1) ⟨_,by omega,q0,q1⟩ (by decide) (tw y2 y2) (by decide) (tw y3 y3) ⟨_,by omega,q2,q3⟩ ⟨_,by omega,u1,u2⟩
        (by decide) (tw y0 y1) (by decide) (tw y2 y3) ⟨_,by omega,r1,r2⟩ ⟨_,by omega,u1.sub u2,(r1.sub r2).mono (Nat.le_succ _)⟩ b1 (zbQ _ _)
noncomputable def zaL(x:RN):Int:=match toO x with
 |some k=>K.sgn k
 |none=>0
theorem z9M(x:RN)(hx:x.raw 1000000=true):PCall P 16 [x.c] (J1 (zaL x)):=by
 unfold zaL
 cases ex:toO x with
 |none=>exact zcf x (z1w ex) hx
 |some k=>
  have a:=z2X ex hx
  rw[zfU (z1J ex).2]
  exact zcC k (by omega)
theorem sgn_zero{x:K}:K.sgn x=0↔x=0:=Sg.zero x
noncomputable def z0K(x y:RN):RN×Int:=match toO x,toO y with
 |some a,some b=>if K.sgn b=0 then(.zero,10)else(.ofK (K.div a b),0)
 |_,_=>(.zero,1)
theorem z9j(x y:RN)(hx:x.raw 1000000=true)(hy:y.raw 1000000=true):PCall P 17 [x.c,y.c] (.tup [(z0K x y).1.c,J1 (z0K x y).2]):=by
 unfold z0K
 cases ex:toO x with
 |none=>exact zd8 x y (z1w ex) hx
 |some k=>
  cases ey:toO y with
  |none=>exact zdc x y (z1J ex).1 (z1w ey) hx hy
  |some l=>
   have a:=z2X ex hx
   have b:=z2X ey hy
   rw[zfU (z1J ex).2,zfU (z1J ey).2]
   dsimp only
   by_cases h0:K.sgn l=0
   · rw[if_pos h0,sgn_zero.1 h0]
     exact zfP k (by simp only[Smk];omega)
   · rw[if_neg h0]
     exact zbH k l (fun h=>h0 (sgn_zero.2 h)) (by omega)
noncomputable def PN.ok(p:PN):Bool:=p.n.ok&&(!zV p.n&&p.d.ok)
noncomputable def oN(n:Int):RN:=ofO (toO (ofO (some (K.ofInt n))))
theorem z7J(n:Int):oN n= .ofK (K.ofInt n):=by unfold oN;rw[z6j];rfl
theorem zf8(n:Int)(h: -9223372036854775808≤n∧n≤9223372036854775807):PCall P 14 [J1 n] (oN n).c:=by rw[z7J];exact X9 n h
noncomputable def kN(x:K):RN:=ofO (toO (ofO (some x)))
theorem z1z(x:K):kN x= .ofK x:=by unfold kN;rw[z6j];rfl
theorem zh5(i:Int):PCall P 24 [J1 i] (kN (z59 i)).c:=by rw[z1z];exact z5v i
theorem zgV(i:Int):PCall P 25 [J1 i] (kN (z7n i)).c:=by rw[z1z];exact z8n i
theorem z2c(x:K):toO (kN x)=some x:=by rw[z1z];exact z5i x
theorem zfi(x:K):zaL (kN x)=K.sgn x:=by unfold zaL;rw[z2c]
theorem zcD(n:Int):oN n=kN (K.ofInt n):=by rw[z7J,z1z]
theorem z8R(x y:K)(h:K.sgn y≠0):(z0K (kN x) (kN y)).1=kN (K.div x y):=by
 unfold z0K
 rw[z2c,z2c]
 dsimp only
 rw[if_neg h,z1z]
theorem z46{x:K}{n:Nat}(h:x.sz≤n):(kN x).raw n=true:=by rw[z1z];exact RN.ofK_raw x h
theorem zgf{z:Int}{n:Nat}(h:(K.ofInt z).sz≤n):(oN z).raw n=true:=by rw[zcD];exact z46 h
theorem zhg(a b c:Int):(oV a b c).x=oN a:=by rw[z8g,z7J];rfl
theorem zhi(a b c:Int):(oV a b c).y=oN b:=by rw[z8g,z7J];rfl
theorem zhn(a b c:Int):(oV a b c).z=oN c:=by rw[z8g,z7J];rfl
theorem PN.raw_mono{p:PN}{n m:Nat}(h:p.raw n=true)(hm:n≤m):p.raw m=true:=by
 obtain⟨a,b⟩:=PN.raw_iff.1 h
 exact PN.raw_iff.2 ⟨VN.raw_mono a hm,RN.raw_mono b hm⟩
open Go.RowKit
def PN.a(p:PN):Array Value:=p.n.x.a++(p.n.y.a++(p.n.z.a++p.d.a))
theorem zdM:(oN 1).raw 1=true:=by rw[z7J];kernel_rfl
theorem z6u(x y z:K):toV ⟨kN x,kN y,kN z⟩=some ⟨x,y,z⟩:=by
 unfold toV
 rw[z2c,z2c,z2c]
theorem zaF(x y z k:K):j6 ⟨kN x,kN y,kN z⟩ (kN k)=⟨kN (x*k),kN (y*k),kN (z*k)⟩:=by
 unfold j6
 rw[z6u,z2c,z1z,z1z,z1z]
 rfl
theorem z6z(S:Nat→Prop)(n:Nat)(hs: ∀k,k<n→S (k+1)→S k)(he:S n):S 0:=by
 have h: ∀d k,k+d=n→S k:=by
  intro d
  induction d with
  |zero=>
   intro k hk
   obtain rfl:k=n:=by omega
   exact he
  |succ d ih=>
   intro k hk
   exact hs k (by omega) (ih (k+1) (by omega))
 exact h n 0 (by omega)
def flat{α:Type}(f:α→List CV)(l:List α):List CV:=l.flatMap f
section
variable{α:Type}{f:α→List CV}{s:Nat}
theorem z0I(x:α)(l:List α):flat f (x::l)=f x++flat f l:=by simp[flat]
theorem z3a(a b:List α):flat f (a++b)=flat f a++flat f b:=by simp[flat]
theorem U8(hf: ∀x,(f x).length=s)(l:List α):(flat f l).length=l.length*s:=by
 induction l with
 |nil=>simp[flat]
 |cons x l ih=>rw[z0I,List.length_append,hf,ih,List.length_cons,Nat.add_mul,Nat.one_mul,Nat.add_comm]
theorem z5s(hf: ∀x,(f x).length=s)(l:List α)(k:Nat):(flat f l).drop (k*s)=flat f (l.drop k):=by
 induction l generalizing k with
 |nil=>simp[flat]
 |cons x l ih=>
  cases k with
  |zero=>rw[Nat.zero_mul];rfl
  |succ k=>
   have e:List.drop s (f x++flat f l)=flat f l:=by rw[←hf x,List.drop_left]
   rw[z0I,Nat.succ_mul,Nat.add_comm,←List.drop_drop,e,ih]
   rfl
theorem z2m(hf: ∀x,(f x).length=s){l:List α}{k:Nat}(hk:k<l.length):List.take s (List.drop (k*s) (flat f l))=f l[k]:=by
 rw[z5s hf,List.drop_eq_getElem_cons hk,z0I,List.take_append_of_le_length (by rw[hf];exact Nat.le_refl _),List.take_of_length_le (by rw[hf];exact Nat.le_refl _)]
theorem z91{l:List α}{k:Nat}(hk:k<l.length):flat f (l.take (k+1))=flat f (l.take k)++f l[k]:=by
 rw[List.take_add_one,List.getElem?_eq_getElem hk,z3a]
 simp[flat]
end
def rdL(x:Int×Int):List CV:=[J1 x.1,J1 x.2]
theorem z0b(x:Int×Int):(rdL x).length=2:=rfl
def rdV(l:List (Int×Int)):CV:= .lst l.length (flat rdL l)
theorem zbb {α : Type} {s : Nat} (l : List α) (g : α → List CV) (hg : ∀ x, (g x).length = s) (S : Nat → Option (Nat × List CV) → Prop)
    (h0: ∀k (hk:k<l.length),S (k+1) (some (1,g l[k]))→S k none)
    (h1: ∀k (hk:k<l.length) c out,c≤k→out.length=c*s→S (k+1) (some (c+1,out++g l[k]))→S k (some (c,out)))
    (hl:l≠[]) (he:S l.length (some (l.length,flat g l))):S 0 none:=by
 have hp:=List.length_pos_iff.2 hl
 have key:=z6z (fun k=>if k=0 then S 0 none else S k (some (k,flat g (l.take k)))) l.length ?_ ?_
 · simpa using key
 · intro k hk h
   rw[if_neg (by omega),z91 hk]at h
   by_cases hk0:k=0
   · subst hk0
     rw[if_pos rfl]
     exact h0 0 hp h
   · rw[if_neg hk0]
     exact h1 k hk k _ (Nat.le_refl _) (by rw[U8 hg,List.length_take,Nat.min_eq_left (by omega)]) h
 · rw[if_neg (by omega),List.take_length]
   exact he
open Go.Proofs Go.Proofs.YtcafjpldfnegiaaDoor
open Go.ChangeShapes Go.WideShapes Go.ChangeAt Go.RowKit
theorem z7V{α:Type}[Inhabited α] {n:Nat}{q:Nat→α→Prop}(h: ∀i,i<n→ ∃x,q i x): ∃f:Nat→α,∀i,i<n→q i (f i):=
 ⟨fun i=>if hi:i<n then(h i hi).choose else default,fun i hi=>by simp only[dif_pos hi];exact(h i hi).choose_spec⟩
theorem z4C {w : World} {base : Nat} {a : Addr} {n : Nat} {cs : List Value} (h : w.cells? base a n = some cs) (hn : 0 < n) :
    a.spot=none∧ ∃c T fz,w.heap[a.block]?=some (.cells c T fz)∧(c.toList.drop a.off).take n=cs:=by
 obtain⟨_,hlen,hi⟩:=World.cells?_some h
 have h0:=hi 0 hn
 have e0:a.add 0=a:=rfl
 rw[e0]at h0
 unfold World.cell? at h0
 split at h0
 · rename_i c T fz hc
   split at h0
   · rw[List.getElem?_eq_getElem (by omega)]at h0;cases h0
   · rename_i hs
     have hspot:a.spot=none:=by cases e:a.spot with|none=>rfl|some s=>rw[e]at hs;exact absurd rfl hs
     refine⟨hspot,c,T,fz,hc,?_⟩
     refine List.ext_getElem? fun i=>?_
     by_cases hin:i<n
     · rw[List.getElem?_take_of_lt hin,List.getElem?_drop,←hi i hin]
       unfold World.cell? Addr.add
       by_cases hi0:i=0
       · subst hi0
         rw[if_pos rfl,hc]
         simp[hspot]
       · rw[if_neg hi0,hc]
         simp
     · rw[List.getElem?_eq_none (by rw[List.length_take];omega),List.getElem?_eq_none (by omega)]
 · rw[List.getElem?_eq_getElem (by omega)]at h0;cases h0
def zbV(b:Nat)(cs:List Value):Imm:=fun k=>if k=b then some cs else none
theorem z6Y(Im:Imm): ∀l:List Value,CV.repL Im (l.map .lit) l
 | []=>by simp only[List.map_nil,CV.repL]
 |x::l=>by
  simp only[List.map_cons,CV.repL]
  exact⟨x,l,rfl,by simp only[CV.rep],z6Y Im l⟩
def zgD(x:Int×Int):List Value:=[.int .i64 x.1,.int .i64 x.2]
theorem z8i(l:List (Int×Int)):flat rdL l=(l.flatMap zgD).map .lit:=by
 induction l with
 |nil=>rfl
 |cons x l ih=>rw[z0I,ih,List.flatMap_cons,List.map_append];rfl
theorem z6w(a:Addr)(n:Nat):(a.add n).block=a.block∧(a.add n).off=a.off+n:=by
 unfold Addr.add
 split
 · rename_i h;subst h;exact⟨rfl,rfl⟩
 · exact⟨rfl,rfl⟩
section
variable{H:Type}{enc:TypeId×Value→H}{W:World}{base:Nat}{sp:Nat→Bool}{hd:Bool}
theorem zbd {t e : TypeId} {v : Value} {d : DataW H} {ps : List MemPlace} (hu : Tryd.prog.underlying t = some (.slice e)) (he : z4v Tryd.prog 8 e = some [.i .i64, .i .i64]) (hc : Tryd.prog.cellsOf e = 2) (hv : ∃ a len cap, v = .slice a len cap) (h : DataW.Trod enc Tryd.prog W base sp hd t v d ps) :
    ∃l:List (Int×Int),∃Im:Imm,ImOk Im W∧(rdV l).rep Im v:=by
 obtain⟨fuel,hx⟩:=h
 obtain⟨a0,len0,cap0,rfl⟩:=hv
 rcases Deep.open_slice hu hx with⟨h1,_⟩|⟨a,len,cap,m,n,D,Pl,h1,hb,hl,hm,hmm,_,hel⟩
 · simp only[Value.cells,List.cons.injEq,and_true]at h1
   injection h1 with e1 e2 e3
   subst e1 e2 e3
   refine⟨[],fun _=>none,(fun b cs hb=>by cases hb),?_⟩
   unfold rdV CV.rep
   exact⟨none,0,rfl,Nat.le_refl _,.inl ⟨rfl,rfl⟩⟩
 · simp only[Value.cells,List.cons.injEq,and_true]at h1
   injection h1 with e1 e2 e3
   subst e1
   obtain rfl:=e2.symm
   obtain rfl:=e3.symm
   have hlm:len≤m:=by rw[hmm];split<;>omega
   rw[hc]at hel
   obtain⟨f,hf⟩:=z7V (α:=Int×Int) (n:=len) (q:=fun i x=>W.cells? base (a.add (i*2)) 2=some (zgD x)) (fun i hi=>by
    obtain⟨cs,k1,k2⟩:=hel i (by omega)
    have k3:=z4f 8 n e cs _ _ k2 he
    simp only[CTs,CT.ok]at k3
    obtain⟨_,_,rfl,⟨x,rfl,_⟩,_,_,rfl,⟨y,rfl,_⟩,rfl⟩:=k3
    exact⟨(x,y),k1⟩)
   by_cases h0:len=0
   · subst h0
     refine⟨[],fun _=>none,(fun b cs hb=>by cases hb),?_⟩
     unfold rdV CV.rep
     exact⟨some a,cap,rfl,hl,.inl ⟨rfl,rfl⟩⟩
   · obtain⟨hs,c,T,fz,hcell,_⟩:=z4C (hf 0 (by omega)) (by decide)
     rw[(z6w a (0*2)).1]at hcell
     have hs':a.spot=none:=hs
     have step: ∀k,k<len→(c.toList.drop (a.off+k*2)).take 2=zgD (f k):=fun k hk=>by
      obtain⟨_,c',T',fz',h2,h3⟩:=z4C (hf k hk) (by decide)
      rw[(z6w a (k*2)).1,hcell]at h2
      injection h2 with h2
      injection h2 with h2
      subst h2
      rw[(z6w a (k*2)).2]at h3
      exact h3
     have all: ∀k,k≤len→(c.toList.drop a.off).take (k*2)=((List.range k).map f).flatMap zgD:=by
      intro k
      induction k with
      |zero=>intro _;simp
      |succ k ih=>
       intro hk
       rw[List.range_succ,List.map_append,List.flatMap_append,←ih (by omega),Nat.succ_mul,List.take_add,List.drop_drop,step k (by omega)]
       simp
     refine⟨(List.range len).map f,zbV a.block c.toList,?_,?_⟩
     · intro b cs hbb
       unfold zbV at hbb
       split at hbb
       · rename_i hbe
         subst hbe
         injection hbb with hbb
         exact⟨c,T,fz,hcell,hbb⟩
       · cases hbb
     · unfold rdV CV.rep
       have hlen:(flat rdL ((List.range len).map f)).length=len*2:=by rw[U8 z0b,List.length_map,List.length_range]
       refine⟨some a,cap,by rw[List.length_map,List.length_range],by rw[List.length_map,List.length_range];exact hl,.inr ⟨a.block,a.off,c.toList,?_,?_,?_⟩⟩
       · rw[←hs']
       · unfold zbV;rw[if_pos rfl]
       · rw[hlen,all len (Nat.le_refl _),z8i]
         exact z6Y _ _
end
theorem z8Y {f : FuncId} {cs : List CV} {W : World} {args : Array Value} (Im : Imm) (him : ImOk Im W) (h : PCall P f cs (.lit (.bool true))) (ha : CV.repL Im cs args.toList) :
    Calls Tryd.prog f args W fun e W'=>e= .returned (.bool true)∧Below W.heap.size W W':=by
 refine(h Im W args him ha).mono ?_
 rintro e W' ⟨y,v,I',rfl,rfl,hv,_,_,hb,_⟩
 simp only[CV.rep]at hv
 subst hv
 exact⟨rfl,hb⟩
end Go.Fw
namespace Go.Fw
set_option maxRecDepth 100000
theorem zeE(n:Nat)(es:List CV){R:CV→Prop}(hR:Ok P 6 (loopHead P 6 0) ⟨J6 18 [(3,.cv (CV.lit (Value.slice none 0 0))),(6,.cv (.lst n es)),(7,.cv (.lit (.int .i64 (n:Int)))),(8,.cv (.lit (.int .i64 0)))],[]⟩ (.of R)):W9 P 6 [.lst n es] R:=
 W7 (keep:=[3,6,7,8]) (σ:=[]) (.o 5 .stop .nil) (by kernel_rfl) rfl hR .nil
theorem zcy(n:Nat)(es:List CV)(k _mi _mo:Int)(h1:decide (k<(n:Int))=false){R:Goal}(hR:R.c (CV.lit (Value.slice none 0 0))):Ok P 6 (loopHead P 6 0) ⟨J6 18 [(3,.cv (CV.lit (Value.slice none 0 0))),(6,.cv (.lst n es)),(7,.cv (J1 (n:Int))),(8,.cv (J1 k))],[]⟩ R:=
 okT (.b 2 h1 .nil) (by kernel_rfl) hR
theorem zgd(i o:Int)(h1:decide (o<(-10000:Int))=true):PCall P 20 [.agg [J1 i,J1 o]] (.lit (.bool true)):=
 j3 (.b 5 h1 .nil) (by kernel_rfl)
theorem zfM(i o:Int)(h1:decide (o<(-10000:Int))=false):PCall P 20 [.agg [J1 i,J1 o]] (.lit (.bool (decide (o>10000)))):=
 j3 (.b 5 h1 .nil) (by kernel_rfl)
theorem zeK(n:Nat)(es:List CV){R:CV→Prop}(hR:Ok P 38 (loopHead P 38 0) ⟨J6 19 [(0,.cv (.lst n es)),(1,.cv (CV.lit (Value.func (Fn.func 20) {toList:=[]} {toList:=[]}))),(7,.cv (.lit (.int .i64 (n:Int)))),(8,.cv (.lit (.int .i64 0)))],[]⟩ (.of R)):W9 P 38 [.lst n es,CV.lit (Value.func (Fn.func 20) #[] #[])] R:=
 W7 (keep:=[0,1,7,8]) (σ:=[]) (.o 4 .stop .nil) (by kernel_rfl) rfl hR .nil
def z73(l:List (Int×Int)):Bool:=decide (l.length≤48)&&l.all fun x=>decide (-10000≤x.2∧x.2≤10000)
def rdP(x:Int×Int):Bool:=decide (-10000≤x.2∧x.2≤10000)
theorem zg0(i o:Int):PCall P 20 [.agg [J1 i,J1 o]] (.lit (.bool (!rdP (i,o)))):=by
 by_cases h1:o< -10000
 · rw[show rdP (i,o)=false from decide_eq_false (by simp only;omega)]
   exact zgd i o (decide_eq_true h1)
 · refine(zfM i o (decide_eq_false h1)).eq ?_
   congr 2
   by_cases h2:o>10000
   · rw[decide_eq_true h2,show rdP (i,o)=false from decide_eq_false (by simp only;omega)];rfl
   · rw[decide_eq_false h2,show rdP (i,o)=true from decide_eq_true (by simp only;omega)];rfl
def ixF:List (Int×Int)→Nat→Int
 | [],_=> -1
 |x::l,k=>if rdP x then ixF l (k+1)else k
theorem z9h: ∀(l:List (Int×Int)) (k:Nat),decide (ixF l k≥0)=!l.all rdP
 | [],_=>rfl
 |x::l,k=>by
  unfold ixF
  rw[List.all_cons]
  cases h:rdP x
  · rw[if_neg (by decide)]
    exact decide_eq_true (by omega)
  · rw[if_pos rfl,Bool.true_and];exact z9h l (k+1)
theorem zc5(n:Nat)(es:List CV)(k mi mo:Int)(h1:decide (k<(n:Int))=true)(h2:(!rdP (mi,mo))=true)(o1:(0:Int)≤k∧k<(n:Int))(o2:List.take 2 (List.drop (k.toNat*2) es)=[.lit (.int .i64 mi),.lit (.int .i64 mo)]){R:Goal}(hR:R.c (.lit (.int .i64 k))):Ok P 38 (loopHead P 38 0) ⟨J6 19 [(0,.cv (.lst n es)),(1,.cv (CV.lit (Value.func (Fn.func 20) #[] #[]))),(7,.cv (J1 (n:Int))),(8,.cv (J1 k))],[]⟩ R:=
 okT (.b 2 h1 (.c o1 (.c o2 (.c (eqn 2) (.c ((zg0 mi mo).eqB h2) (.o 9 (.r (.agg [.lit (.int .i64 mi),.lit (.int .i64 mo)])) (.o 10 (.r (.lit (.bool true))) .nil))))))) (by kernel_rfl) hR
theorem zcR(n:Nat)(es:List CV)(k mi mo:Int)(h1:decide (k<(n:Int))=true)(h2:(!rdP (mi,mo))=false)(o1:(0:Int)≤k∧k<(n:Int))(o2:List.take 2 (List.drop (k.toNat*2) es)=[.lit (.int .i64 mi),.lit (.int .i64 mo)]){R:Goal}(hn:j7 R.n []=true)(hR:Ok P 38 (loopHead P 38 0) ⟨J6 19 [(0,.cv (.lst n es)),(1,.cv (CV.lit (Value.func (Fn.func 20) {toList:=[]} {toList:=[]}))),(7,.cv (.lit (.int .i64 (n:Int)))),(8,.cv (.lit (.int .i64 (i64.wrap (k+1)))))],[]⟩ R):Ok P 38 (loopHead P 38 0) ⟨J6 19 [(0,.cv (.lst n es)),(1,.cv (CV.lit (Value.func (Fn.func 20) #[] #[]))),(7,.cv (J1 (n:Int))),(8,.cv (J1 k))],[]⟩ R:=
 z39 (keep:=[0,1,7,8]) (σ:=[]) (.b 2 h1 (.c o1 (.c o2 (.c (eqn 2) (.c ((zg0 mi mo).eqB h2) (.o 9 (.r (.agg [.lit (.int .i64 mi),.lit (.int .i64 mo)])) (.o 10 (.r (.lit (.bool false))) (.o 14 .stop .nil)))))))) (by kernel_rfl) rfl hn hR .nil
theorem zdL(n:Nat)(es:List CV)(k _mi _mo:Int)(h1:decide (k<(n:Int))=false){R:Goal}(hR:R.c (.lit (.int .i64 (-1:Int)))):Ok P 38 (loopHead P 38 0) ⟨J6 19 [(0,.cv (.lst n es)),(1,.cv (CV.lit (Value.func (Fn.func 20) #[] #[]))),(7,.cv (J1 (n:Int))),(8,.cv (J1 k))],[]⟩ R:=
 okT (.b 2 h1 .nil) (by kernel_rfl) hR
theorem zgP(l:List (Int×Int))(hl:l.length<2^30):PCall P 38 [rdV l,.lit (.func (.func 20) #[] #[])] (J1 (ixF l 0)):=by
 refine zeK l.length (flat rdL l) (R := (· = _)) ?_
 have key:=z6z (fun k=> ∀R:Goal,j7 R.n []=true→R.c (J1 (ixF (l.drop k) k))→Ok P 38 (loopHead P 38 0) ⟨J6 19 [(0,.cv (.lst l.length (flat rdL l))),(1,.cv (.lit (.func (.func 20) #[] #[]))),(7,.cv (J1 l.length)),(8,.cv (J1 k))],[]⟩ R) l.length ?_ ?_
 · exact key _ rfl rfl
 · intro k hk ih R hn hR
   have b:(0:Int)≤(k:Int)∧(k:Int)<(l.length:Int):=by omega
   have i1:=decide_eq_true b.2
   rw[List.drop_eq_getElem_cons hk]at hR
   unfold ixF at hR
   cases h:rdP l[k]
   · rw[h,if_neg (by decide)]at hR
     exact zc5 l.length (flat rdL l) k l[k].1 l[k].2 i1 (by rw[show(l[k].1,l[k].2)=l[k]from rfl,h];rfl) b (z2m z0b hk) hR
   · rw[h,if_pos rfl]at hR
     refine zcR l.length (flat rdL l) k l[k].1 l[k].2 i1 (by rw[show(l[k].1,l[k].2)=l[k]from rfl,h];rfl) b (z2m z0b hk) hn ?_
     rw[w64 (by omega)]
     exact ih R hn hR
 · intro R hn hR
   rw[List.drop_length]at hR
   exact zdL l.length (flat rdL l) l.length 0 0 (decide_eq_false (by omega)) hR
theorem zeM(l:List (Int×Int))(a:l.length<2^30):PCall P 19 [rdV l,CV.lit (Value.func (Fn.func 20) #[] #[])] (.lit (.bool (decide (ixF l 0≥0)))):=
 j3 (.r 3 (zgP l a) .nil) (by kernel_rfl)
theorem zfe(i:Int)(a:(-9223372036854775808:Int)≤1∧(1:Int)≤9223372036854775807):PCall P 13 [J1 i] (z3g (oN (1:Int)) (kN (z59 i)) (kN (z7n i))):=
 j3 (.r 1 (zf8 (1:Int) a) (.r 3 (zh5 i) (.r 5 (zgV i) (.c (lq 30 30) .nil)))) (by kernel_rfl)
theorem z7N{v w:VN}{n:Nat}(hv:v.raw n=true)(hw:w.raw n=true):(z25 v w).raw (n+n+n+n+3)=true:=by
 refine z4T ?_
 cases ev:toV v with
 |none=>exact Nat.zero_le _
 |some a=>
  cases ew:toV w with
  |none=>exact Nat.zero_le _
  |some b=>
   obtain⟨x,y,z⟩:=z2b ev hv
   obtain⟨x',y',z'⟩:=z2b ew hw
   have key: ∀c d e f:K,c.sz≤n→d.sz≤n→e.sz≤n→f.sz≤n→(c*d-e*f).sz≤n+n+n+n+3:=by
    intro c d e f h1 h2 h3 h4
    have m1:=K.sz_mul c d
    have m2:=K.sz_mul e f
    have m3:=K.sz_sub (c*d) (e*f)
    omega
   have k1:=key a.y b.z a.z b.y y z' z y'
   have k2:=key a.z b.x a.x b.z z x' x z'
   have k3:=key a.x b.y a.y b.x x y' y x'
   show max (a.y*b.z-a.z*b.y).sz (max (a.z*b.x-a.x*b.z).sz (a.x*b.y-a.y*b.x).sz)≤_
   omega
noncomputable def kV(a b c:K):VN:=⟨kN a,kN b,kN c⟩
theorem zcQ(a b c a' b' c':K):zdx (kV a b c) (kV a' b' c')=kN (a*a'+b*b'+c*c'):=by
 unfold zdx kV
 rw[z6u,z6u,z1z];rfl
theorem zcA(a b c a' b' c':K):V9 (kV a b c) (kV a' b' c')=kV (a+a') (b+b') (c+c'):=by
 unfold V9 kV
 rw[z6u,z6u,z1z,z1z,z1z];rfl
theorem z9Q(a b c k:K):j6 (kV a b c) (kN k)=kV (a*k) (b*k) (c*k):=zaF a b c k
theorem z1u{v:VN}{k:RN}{n:Nat}(hv:v.raw n=true)(hk:k.raw n=true):(j6 v k).raw (n+n+1)=true:=by
 refine z4T ?_
 have hk':=z6r hk
 cases ev:toV v with
 |none=>exact Nat.zero_le _
 |some a=>
  cases ew:toO k with
  |none=>exact Nat.zero_le _
  |some b=>
   rw[ew]at hk'
   have hk':b.sz≤n:=hk'
   obtain⟨x,y,z⟩:=z2b ev hv
   have m1:=K.sz_mul a.x b
   have m2:=K.sz_mul a.y b
   have m3:=K.sz_mul a.z b
   show max (a.x*b).sz (max (a.y*b).sz (a.z*b).sz)≤n+n+1
   omega
theorem zf0(v w:VN)(hv:v.raw 10000=true)(hw:w.raw 10000=true):PCall P 46 [v.c,w.c] (zdx v w).c:=by
 have hm:(z37 v w).raw 100000=true:=by
  refine z4T ?_
  cases ev:toV v with
  |none=>exact Nat.zero_le _
  |some a=>
   cases ew:toV w with
   |none=>exact Nat.zero_le _
   |some b=>
    obtain⟨x,y,z⟩:=z2b ev hv
    obtain⟨x',y',z'⟩:=z2b ew hw
    have m1:=K.sz_mul a.x b.x
    have m2:=K.sz_mul a.y b.y
    have m3:=K.sz_mul a.z b.z
    show max (a.x*b.x).sz (max (a.y*b.y).sz (a.z*b.z).sz)≤100000
    omega
 obtain⟨h1,h2,h3⟩:=U2.1 hm
 have h:=zd5 v w (VN.raw_mono hv (by decide)) (VN.raw_mono hw (by decide)) (RN.raw_mono h1 (by decide)) (RN.raw_mono h2 (by decide)) (RN.raw_mono (zd4 h1 h2) (by decide)) (RN.raw_mono h3 (by decide))
 rwa[z7M]at h
theorem zfA(u v w:VN)(a:VN.raw 1000 v=true)(d:VN.raw 1000 w=true)(e:VN.raw 10000 u=true)(f:VN.raw 10000 (z25 v w)=true):PCall P 27 [u.c,v.c,w.c] (RN.c (zdx u (z25 v w))):=
 j3 (.r 7 (z9X v w a d) (.r 8 (zf0 u (z25 v w) e f) (.c (lq 10 10) .nil))) (by kernel_rfl)
noncomputable def Q3(u v w:VN):RN:=zdx u (z25 v w)
theorem zeN(u v w:VN)(hu:u.raw 1000=true)(hv:v.raw 1000=true)(hw:w.raw 1000=true):PCall P 27 [u.c,v.c,w.c] (Q3 u v w).c:=
 zfA u v w hv hw (VN.raw_mono hu (by decide)) (VN.raw_mono (z7N hv hw) (by decide))
def zht(z:Int):Int×Bool:=if-9223372036854775808≤z∧z<9223372036854775808 then(z,true)else(0,false)
theorem i64_in{z:Int}(h: -9223372036854775808≤z∧z<9223372036854775808):zht z=(z,true):=if_pos h
theorem zec(i:Int){n:Nat}(h:1≤n):(kN (z59 i)).raw n=true:=z46 (Nat.le_trans (zbP i) h)
theorem zdZ(i:Int){n:Nat}(h:1≤n):(kN (z7n i)).raw n=true:=z46 (Nat.le_trans (zbK i) h)
structure Q4 where
 a:Int
 b:Int
 c:Int
 d:Int
namespace Q4
def mul(x y:Q4):Q4:=⟨x.a*y.a+2*x.b*y.b+3*x.c*y.c+6*x.d*y.d,x.a*y.b+x.b*y.a+3*x.c*y.d+3*x.d*y.c,x.a*y.c+x.c*y.a+2*x.b*y.d+2*x.d*y.b,x.a*y.d+x.d*y.a+x.b*y.c+x.c*y.b⟩
def Sm(n:Nat)(x:Q4):Prop:=By4 n x.a x.b x.c x.d
end Q4
end Go.Fw
