/- A part of the proof that the law returns true for every input: an executor for the model's code, and what functions of the program compute. -/
import Derived.Test.YtcafjpldfnegiaaGreatDoorB05
import Derived.Test.YtcafjpldfnegiaaGreatDoorB06
import Derived.Test.YtcafjpldfnegiaaGreatDoorB11
import Derived.Test.YtcafjpldfnegiaaGreatDoorB15
import Derived.Test.YtcafjpldfnegiaaGreatDoorB22
import Derived.Test.YtcafjpldfnegiaaGreatDoorB40
import Derived.KernelRfl
import Derived.RangeFuncNested
import Derived.RangeFuncBound
import Derived.RangeFuncCalls
import Derived.RangeFuncLeaves
import Derived.Shelf.Abstract
import Derived.Shelf.RegionOpen
import Derived.WalkKit
import Derived.OwnWalkIn
import Derived.TacticsInMore
import Derived.LoopNIn
import Derived.LoopIn
open Go
namespace Go.Fw
set_option maxRecDepth 100000
def z52(a b c:Int):Int:=if a=b∨b=0 then a else if a=0 then b else a*c
theorem z2D(a b c:Int)(ha: -1≤a∧a≤1)(hc: -1≤c∧c≤1):PCall P 208 [j6 a,j6 b,j6 c] (j6 (z52 a b c)):=by
 unfold z52
 by_cases h1:a=b
 · rw[if_pos (.inl h1)]
   exact zmM a b c (by simp[h1])
 · by_cases h2:b=0
   · rw[if_pos (.inr h2)]
     exact zn4 a b c (by simp[h1]) (by simp[h2])
   · rw[if_neg (by rintro(h|h)<;>contradiction)]
     by_cases h3:a=0
     · rw[if_pos h3]
       exact zph a b c (by simp[h1]) (by simp[h2]) (by simp[h3])
     · rw[if_neg h3]
       have:=zlw a b c (by simp[h1]) (by simp[h2]) (by simp[h3])
       have hw:IntKind.i64.wrap (a*c)=a*c:=by
        have:a= -1∨a=1:=by omega
        rcases this with h|h<;>rw[h]<;>exact w64 (by omega)
       rwa[hw]at this
theorem z8S(k a b:Int){n m:Nat}(hk: -100≤k∧k≤100)(ha:By n a)(hb:By m b)(hn:n+m+1<1073741824):PCall P 210 [j6 k,J6 a,J6 b] (J6 (k*(a*b))):=by
 have hk':By 1 k:=by unfold By;omega
 have hab:=ha.mul hb
 exact zlV k a b (by omega) (ha.sml (by omega)) (hb.sml (by omega)) (ha.sm2 hb (by omega)) (hk'.sml (by decide)) (hab.sml (by omega)) (hk'.sm2 hab (by omega))
end Go.Fw
open Go IntKind
namespace Go.Fw
set_option maxRecDepth 100000
theorem zlH(a b:Int)(s5_0:SmlZ a)(s5_1:SmlZ b)(s5_2:Sml (a.natAbs+b.natAbs)):PCall P 246 [J6 a,J6 b] (.lit (.int .i64 (a-b).sign)):=
 j4 (.r 5 (za1 (a) (b) s5_0 s5_1 s5_2) (.r 6 (z10 (a-b)) .nil)) (by kernel_rfl)
end Go.Fw
open Go
namespace Go.Fw
set_option maxRecDepth 100000
def Two(a b:Int):Prop:= ∃n,n≤500000000∧By n a∧By n b
theorem z2h(k a b:Int)(hk: -100≤k∧k≤100)(h:Two a b):PCall P 210 [j6 k,J6 a,J6 b] (J6 (k*(a*b))):=by
 obtain⟨n,hn,ha,hb⟩:=h
 exact z8S k a b hk ha hb (by omega)
theorem zcH(a b:Int)(h:Two a b):PCall P 246 [J6 a,J6 b] (j6 (a-b).sign):=by
 obtain⟨n,hn,ha,hb⟩:=h
 exact zlH a b (ha.sml (by omega)) (hb.sml (by omega)) (ha.sma hb (by omega))
theorem zn8(a b:Int)(h:Two a b):PCall P 203 [J6 a,J6 b] (J6 (a*b)):=by
 obtain⟨n,hn,ha,hb⟩:=h
 exact z06 a b (ha.sml (by omega)) (hb.sml (by omega)) (ha.sm2 hb (by omega))
theorem zht(a b:Int)(h:Two a b):PCall P 202 [J6 a,J6 b] (J6 (a+b)):=by
 obtain⟨n,hn,ha,hb⟩:=h
 exact z2l a b (ha.sml (by omega)) (hb.sml (by omega)) (ha.sma hb (by omega))
theorem zhd(a b:Int)(h:Two a b):PCall P 209 [J6 a,J6 b] (J6 (a-b)):=by
 obtain⟨n,hn,ha,hb⟩:=h
 exact za1 a b (ha.sml (by omega)) (hb.sml (by omega)) (ha.sma hb (by omega))
end Go.Fw
open Go IntKind
namespace Go.Fw
set_option maxRecDepth 100000
theorem zn6(a b:Int)(s9_0:Two a a)(s12_0:(-100:Int)≤2∧(2:Int)≤100)(s12_1:Two b b)(s13_0:Two (a*a) ((2:Int)*(b*b)))(s14_0:(-1:Int)≤a.sign∧a.sign≤1)(s14_1:(-1:Int)≤(a*a-2*(b*b)).sign∧(a*a-2*(b*b)).sign≤1):PCall P 207 [J6 a,J6 b] (.lit (.int .i64 (z52 a.sign b.sign (a*a-2*(b*b)).sign))):=
 j4 (.r 4 (z10 (a)) (.r 6 (z10 (b)) (.r 9 (zn8 (a) (a) s9_0) (.r 12 (z2h ((2:Int)) (b) (b) s12_0 s12_1) (.r 13 (zcH (a*a) ((2:Int)*(b*b)) s13_0) (.r 14 (z2D (a.sign) (b.sign) ((a*a-2*(b*b)).sign) s14_0 s14_1) .nil)))))) (by kernel_rfl)
end Go.Fw
open Go
namespace Go.Fw
set_option maxRecDepth 100000
def sg2(a b:Int):Int:=z52 a.sign b.sign (a*a-2*(b*b)).sign
theorem z3z(a:Int): -1≤a.sign∧a.sign≤1:=by
 rcases Int.lt_trichotomy a 0 with h|h|h
 · rw[Int.sign_eq_neg_one_of_neg h];decide
 · rw[h];decide
 · rw[Int.sign_eq_one_of_pos h];decide
theorem ziE{a b c:Int}(ha: -1≤a∧a≤1)(hb: -1≤b∧b≤1)(hc: -1≤c∧c≤1): -1≤z52 a b c∧z52 a b c≤1:=by
 unfold z52
 split
 · exact ha
 · split
   · exact hb
   · have:a= -1∨a=0∨a=1:=by omega
     rcases this with h|h|h<;>rw[h]<;>omega
theorem zap(a b:Int): -1≤sg2 a b∧sg2 a b≤1:=ziE (z3z a) (z3z b) (z3z _)
def z56(a b:Int):Prop:= ∃n,n≤100000000∧By n a∧By n b
theorem By.two{a:Int}{n:Nat}(h:By n a):By (n+1) (2*a):=by
 have:By 1 2:=by unfold By;decide
 have:=this.mul h
 rwa[Nat.add_comm]at this
theorem z16(a b:Int)(h:z56 a b):PCall P 207 [J6 a,J6 b] (j6 (sg2 a b)):=by
 obtain⟨n,hn,ha,hb⟩:=h
 exact zn6 a b ⟨n,by omega,ha,ha⟩ (by decide) ⟨n,by omega,hb,hb⟩ ⟨n+n+1,by omega,(ha.mul ha).mono (by omega),(hb.mul hb).two⟩ (z3z _) (z3z _)
end Go.Fw
open Go IntKind
namespace Go.Fw
set_option maxRecDepth 100000
theorem zoa(x:K)(h1:(sg2 x.c0 x.c1==sg2 x.c2 x.c3)=true)(s3_0:Smk x)(s28_0:z56 x.c0 x.c1)(s31_0:z56 x.c2 x.c3)(s48_0:(-1:Int)≤sg2 x.c0 x.c1∧sg2 x.c0 x.c1≤1)(s48_1:(-1:Int)≤0∧(0:Int)≤1):PCall P 146 [Y6 x] (.lit (.int .i64 (z52 (sg2 x.c0 x.c1) (sg2 x.c2 x.c3) (0:Int)))):=
 j4 (.r 3 (U5 (x) s3_0) (.c (bq 0 4) (.c (bq 1 4) (.c (bq 2 4) (.c (bq 3 4) (.c (lq 2 2) (.c (lq 2 2) (.c (lq 2 2) (.c (lq 2 2) (.r 28 (z16 (x.c0) (x.c1) s28_0) (.r 31 (z16 (x.c2) (x.c3) s31_0) (.b 37 h1 (.r 48 (z2D (sg2 x.c0 x.c1) (sg2 x.c2 x.c3) ((0:Int)) s48_0 s48_1) .nil))))))))))))) (by kernel_rfl)
theorem znm(x:K)(h1:(sg2 x.c0 x.c1==sg2 x.c2 x.c3)=false)(h2:(sg2 x.c2 x.c3==0)=true)(s3_0:Smk x)(s28_0:z56 x.c0 x.c1)(s31_0:z56 x.c2 x.c3)(s48_0:(-1:Int)≤sg2 x.c0 x.c1∧sg2 x.c0 x.c1≤1)(s48_1:(-1:Int)≤0∧(0:Int)≤1):PCall P 146 [Y6 x] (.lit (.int .i64 (z52 (sg2 x.c0 x.c1) (sg2 x.c2 x.c3) (0:Int)))):=
 j4 (.r 3 (U5 (x) s3_0) (.c (bq 0 4) (.c (bq 1 4) (.c (bq 2 4) (.c (bq 3 4) (.c (lq 2 2) (.c (lq 2 2) (.c (lq 2 2) (.c (lq 2 2) (.r 28 (z16 (x.c0) (x.c1) s28_0) (.r 31 (z16 (x.c2) (x.c3) s31_0) (.b 37 h1 (.b 41 h2 (.r 48 (z2D (sg2 x.c0 x.c1) (sg2 x.c2 x.c3) ((0:Int)) s48_0 s48_1) .nil)))))))))))))) (by kernel_rfl)
theorem znP(x:K)(h1:(sg2 x.c0 x.c1==sg2 x.c2 x.c3)=false)(h2:(sg2 x.c2 x.c3==0)=false)(h3:(sg2 x.c0 x.c1==0)=true)(s3_0:Smk x)(s28_0:z56 x.c0 x.c1)(s31_0:z56 x.c2 x.c3)(s48_0:(-1:Int)≤sg2 x.c0 x.c1∧sg2 x.c0 x.c1≤1)(s48_1:(-1:Int)≤0∧(0:Int)≤1):PCall P 146 [Y6 x] (.lit (.int .i64 (z52 (sg2 x.c0 x.c1) (sg2 x.c2 x.c3) (0:Int)))):=
 j4 (.r 3 (U5 (x) s3_0) (.c (bq 0 4) (.c (bq 1 4) (.c (bq 2 4) (.c (bq 3 4) (.c (lq 2 2) (.c (lq 2 2) (.c (lq 2 2) (.c (lq 2 2) (.r 28 (z16 (x.c0) (x.c1) s28_0) (.r 31 (z16 (x.c2) (x.c3) s31_0) (.b 37 h1 (.b 41 h2 (.b 45 h3 (.r 48 (z2D (sg2 x.c0 x.c1) (sg2 x.c2 x.c3) ((0:Int)) s48_0 s48_1) .nil))))))))))))))) (by kernel_rfl)
theorem znH(x:K)(h1:(sg2 x.c0 x.c1==sg2 x.c2 x.c3)=false)(h2:(sg2 x.c2 x.c3==0)=false)(h3:(sg2 x.c0 x.c1==0)=false)(s3_0:Smk x)(s28_0:z56 x.c0 x.c1)(s31_0:z56 x.c2 x.c3)(s48_0:(-100:Int)≤1∧(1:Int)≤100)(s48_1:Two x.c0 x.c0)(s51_0:(-100:Int)≤2∧(2:Int)≤100)(s51_1:Two x.c1 x.c1)(s52_0:Two ((1:Int)*(x.c0*x.c0)) ((2:Int)*(x.c1*x.c1)))(s55_0:(-100:Int)≤3∧(3:Int)≤100)(s55_1:Two x.c2 x.c2)(s58_0:(-100:Int)≤6∧(6:Int)≤100)(s58_1:Two x.c3 x.c3)(s59_0:Two ((3:Int)*(x.c2*x.c2)) ((6:Int)*(x.c3*x.c3)))(s60_0:Two ((1:Int)*(x.c0*x.c0)+2*(x.c1*x.c1)) ((3:Int)*(x.c2*x.c2)+6*(x.c3*x.c3)))(s65_0:(-100:Int)≤2∧(2:Int)≤100)(s65_1:Two x.c0 x.c1)(s68_0:(-100:Int)≤6∧(6:Int)≤100)(s68_1:Two x.c2 x.c3)(s69_0:Two ((2:Int)*(x.c0*x.c1)) ((6:Int)*(x.c2*x.c3)))(s76_0:z56 ((1:Int)*(x.c0*x.c0)+2*(x.c1*x.c1)-((3:Int)*(x.c2*x.c2)+6*(x.c3*x.c3))) ((2:Int)*(x.c0*x.c1)-6*(x.c2*x.c3)))(s77_0:(-1:Int)≤sg2 x.c0 x.c1∧sg2 x.c0 x.c1≤1)(s77_1:(-1:Int)≤sg2 ((1:Int)*(x.c0*x.c0)+2*(x.c1*x.c1)-((3:Int)*(x.c2*x.c2)+6*(x.c3*x.c3))) ((2:Int)*(x.c0*x.c1)-6*(x.c2*x.c3))∧sg2 ((1:Int)*(x.c0*x.c0)+2*(x.c1*x.c1)-((3:Int)*(x.c2*x.c2)+6*(x.c3*x.c3))) ((2:Int)*(x.c0*x.c1)-6*(x.c2*x.c3))≤1):PCall P 146 [Y6 x] (.lit (.int .i64 (z52 (sg2 x.c0 x.c1) (sg2 x.c2 x.c3) (sg2 ((1:Int)*(x.c0*x.c0)+2*(x.c1*x.c1)-((3:Int)*(x.c2*x.c2)+6*(x.c3*x.c3))) ((2:Int)*(x.c0*x.c1)-6*(x.c2*x.c3)))))):=
 j4 (.r 3 (U5 (x) s3_0) (.c (bq 0 4) (.c (bq 1 4) (.c (bq 2 4) (.c (bq 3 4) (.c (lq 2 2) (.c (lq 2 2) (.c (lq 2 2) (.c (lq 2 2) (.r 28 (z16 (x.c0) (x.c1) s28_0) (.r 31 (z16 (x.c2) (x.c3) s31_0) (.b 37 h1 (.b 41 h2 (.b 45 h3 (.r 48 (z2h ((1:Int)) (x.c0) (x.c0) s48_0 s48_1) (.r 51 (z2h ((2:Int)) (x.c1) (x.c1) s51_0 s51_1) (.r 52 (zht ((1:Int)*(x.c0*x.c0)) ((2:Int)*(x.c1*x.c1)) s52_0) (.r 55 (z2h ((3:Int)) (x.c2) (x.c2) s55_0 s55_1) (.r 58 (z2h ((6:Int)) (x.c3) (x.c3) s58_0 s58_1) (.r 59 (zht ((3:Int)*(x.c2*x.c2)) ((6:Int)*(x.c3*x.c3)) s59_0) (.r 60 (zhd ((1:Int)*(x.c0*x.c0)+2*(x.c1*x.c1)) ((3:Int)*(x.c2*x.c2)+6*(x.c3*x.c3)) s60_0) (.c (lq 2 2) (.r 65 (z2h ((2:Int)) (x.c0) (x.c1) s65_0 s65_1) (.r 68 (z2h ((6:Int)) (x.c2) (x.c3) s68_0 s68_1) (.r 69 (zhd ((2:Int)*(x.c0*x.c1)) ((6:Int)*(x.c2*x.c3)) s69_0) (.c (lq 2 2) (.r 76 (z16 ((1:Int)*(x.c0*x.c0)+2*(x.c1*x.c1)-((3:Int)*(x.c2*x.c2)+6*(x.c3*x.c3))) ((2:Int)*(x.c0*x.c1)-6*(x.c2*x.c3)) s76_0) (.r 77 (z2D (sg2 x.c0 x.c1) (sg2 x.c2 x.c3) (sg2 ((1:Int)*(x.c0*x.c0)+2*(x.c1*x.c1)-((3:Int)*(x.c2*x.c2)+6*(x.c3*x.c3))) ((2:Int)*(x.c0*x.c1)-6*(x.c2*x.c3))) s77_0 s77_1) .nil)))))))))))))))))))))))))))) (by kernel_rfl)
end Go.Fw
open Go
namespace Go.Fw
set_option maxRecDepth 100000
section
variable{R:Type}[CR R][Sg R] {m:R}[im:Sg.Irr m]
theorem Adj.sg_mix(x:Adj R m):Adj.sg x=z52 (Sg.sg x.re) (Sg.sg x.im) (Sg.sg (Adj.nm x)):=by
 have hz:=Adj.nm_zero x
 rcases Sg.vals (Adj.nm x)with hn|hn|hn
 · -- the second part is the greater
   have hi:=Adj.im_ne hn
   have e:Adj.sg x=Sg.sg x.im:=by unfold Adj.sg;rw[hn,if_neg (by decide),if_pos rfl]
   rw[e,hn]
   unfold z52
   rcases Sg.vals x.re with ha|ha|ha<;>rcases Sg.vals x.im with hb|hb|hb<;>rw[ha,hb]<;>first|rfl|exact absurd hb hi
 · have e:Adj.sg x=0:=by unfold Adj.sg;rw[hn,if_neg (by decide),if_neg (by decide)]
   have h0:=hz.1 hn
   have hr:Sg.sg x.re=0:=by rw[h0];exact(Sg.zero _).2 rfl
   have hi:Sg.sg x.im=0:=by rw[h0];exact(Sg.zero _).2 rfl
   rw[e,hr,hi];rfl
 · have hr:=Adj.re_ne hn
   have e:Adj.sg x=Sg.sg x.re:=by unfold Adj.sg;rw[hn,if_pos rfl]
   rw[e,hn]
   unfold z52
   rcases Sg.vals x.re with ha|ha|ha<;>rcases Sg.vals x.im with hb|hb|hb<;>rw[ha,hb]<;>first|rfl|exact absurd ha hr
end
theorem ze5(a b:Int):sg2 a b=Adj.sg (⟨a,b⟩:Z2):=by
 rw[Adj.sg_mix];rfl
theorem z2U{a b c c':Int}(h:a=b∨b=0∨a=0):z52 a b c=z52 a b c':=by
 unfold z52
 rcases h with h|h|h
 · rw[if_pos (.inl h),if_pos (.inl h)]
 · rw[if_pos (.inr h),if_pos (.inr h)]
 · rw[if_pos h,if_pos h]
def zpP(x:K):Int:=z52 (sg2 x.c0 x.c1) (sg2 x.c2 x.c3) (sg2 (1*(x.c0*x.c0)+2*(x.c1*x.c1)-(3*(x.c2*x.c2)+6*(x.c3*x.c3))) (2*(x.c0*x.c1)-6*(x.c2*x.c3)))
theorem zbS(x:K):zpP x=K.sgn x:=by
 show _=Adj.sg (K.num x)
 rw[Adj.sg_mix]
 unfold zpP
 rw[ze5,ze5,ze5]
 show z52 _ _ _=z52 (Adj.sg (K.num x).re) (Adj.sg (K.num x).im) (Adj.sg (Adj.nm (K.num x)))
 congr 2
 refine Adj.ext ?_ ?_
 · show 1*(x.c0*x.c0)+2*(x.c1*x.c1)-(3*(x.c2*x.c2)+6*(x.c3*x.c3))=x.c0*x.c0+2*(x.c1*x.c1)-(3*(x.c2*x.c2+2*(x.c3*x.c3))+2*(0*(x.c2*x.c3+x.c3*x.c2)))
   grind
 · show 2*(x.c0*x.c1)-6*(x.c2*x.c3)=x.c0*x.c1+x.c1*x.c0-(3*(x.c2*x.c3+x.c3*x.c2)+0*(x.c2*x.c2+2*(x.c3*x.c3)))
   grind
end Go.Fw
open Go
namespace Go.Fw
set_option maxRecDepth 100000
theorem By.k{a k:Int}{n:Nat}(hk: -100≤k∧k≤100)(h:By n a):By (n+1) (k*a):=by
 have:By 1 k:=by unfold By;omega
 have:=this.mul h
 rwa[Nat.add_comm]at this
theorem By.sub{a b:Int}{n:Nat}(h:By n a)(k:By n b):By (n+1) (a-b):=by
 have:=h.add k.neg
 rwa[←Int.sub_eq_add_neg]at this
theorem zhS(x:K)(hx:x.sz≤10000000):PCall P 146 [Y6 x] (j6 (K.sgn x)):=by
 obtain⟨x0,x1,x2,x3,_⟩:=By.of_sz hx
 have hs:Smk x:=by simp only[Smk];omega
 have t01:z56 x.c0 x.c1:=⟨_,by decide,x0,x1⟩
 have t23:z56 x.c2 x.c3:=⟨_,by decide,x2,x3⟩
 have b1:=zap x.c0 x.c1
 rw[←zbS]
 unfold zpP
 by_cases h1:sg2 x.c0 x.c1=sg2 x.c2 x.c3
 · rw[z2U (c':=0) (.inl h1)]
   exact zoa x (by simp[h1]) hs t01 t23 b1 (by decide)
 · by_cases h2:sg2 x.c2 x.c3=0
   · rw[z2U (c':=0) (.inr (.inl h2))]
     exact znm x (beq_false_of_ne h1) (by simp[h2]) hs t01 t23 b1 (by decide)
   · by_cases h3:sg2 x.c0 x.c1=0
     · rw[z2U (c':=0) (.inr (.inr h3))]
       exact znP x (beq_false_of_ne h1) (beq_false_of_ne h2) (by simp[h3]) hs t01 t23 b1 (by decide)
     · obtain⟨n,hn,hy⟩: ∃n,n≤10000000∧x.sz≤n:=⟨_,Nat.le_refl _,hx⟩
       obtain⟨y0,y1,y2,y3,_⟩:=By.of_sz hy
       have tw: ∀{a b:Int},By n a→By n b→Two a b:=fun ha hb=>⟨n,by omega,ha,hb⟩
       have q0:=(y0.mul y0).k (k:=1) (by decide)
       have q1:=(y1.mul y1).k (k:=2) (by decide)
       have q2:=(y2.mul y2).k (k:=3) (by decide)
       have q3:=(y3.mul y3).k (k:=6) (by decide)
       have r1:=(y0.mul y1).k (k:=2) (by decide)
       have r2:=(y2.mul y3).k (k:=6) (by decide)
       have u1:=q0.add q1
       have u2:=q2.add q3
       exact znH x (beq_false_of_ne h1) (beq_false_of_ne h2) (beq_false_of_ne h3) hs t01 t23 (by decide) (tw y0 y0) (by decide) (tw y1 y1) ⟨_,by omega,q0,q1⟩ (by decide) (tw y2 y2) (by decide) (tw y3 y3) ⟨_,by omega,q2,q3⟩ ⟨_,by omega,u1,u2⟩
        (by decide) (tw y0 y1) (by decide) (tw y2 y3) ⟨_,by omega,r1,r2⟩ ⟨_,by omega,u1.sub u2,(r1.sub r2).mono (Nat.le_succ _)⟩ b1 (zap _ _)
noncomputable def z0E(x:RN):Int:=match toO x with
 |some k=>K.sgn k
 |none=>0
theorem z0c(x:RN)(hx:x.raw 1000000=true):PCall P 146 [x.c] (j6 (z0E x)):=by
 unfold z0E
 cases ex:toO x with
 |none=>exact zhP x (z0p ex) hx
 |some k=>
  have a:=z1o ex hx
  rw[zbz (z19 ex).2]
  exact zhS k (by omega)
end Go.Fw
open Go Go.RowKit Go.Shelf Go.Proofs
namespace Go.Fw
section
variable{F:Fence}{n:Nat}{P:Program}{ops:Array Oper}{Q:Exit→Act→World→Prop}{a:Act}{w w':World}{rest:List Oper}{o:Oper}
theorem z0a {T : TypeId} {p : Operand} {d : Value} {v : Value} (hg : o.guard = none) (hop : o.op = .load T p) (hp : a.eval p = d) (hrun : (Instr.loadAt T d).run P w = .ok v w)
    (hk:wpListIn F n P ops Q rest (a.put o.dst v) w):wpListIn F n P ops Q (o::rest) a w:=by
 refine wpListIn_plain hg fun K hK=>?_
 refine⟨fun f hf=>?_,?_⟩
 · simp[Oper.about,hop]at hf
 · have hr:(execOp a.eval o).run P w= .ok (.value v) w:=by unfold execOp;rw[hop];simp only[hp];simp[hrun]
   rw[Oper.semAt_eq _ _ _ (by simp[hop]),hr]
   exact hK _ _ hk
theorem z3g {T : TypeId} {p : Operand} {d : Value} {v : Value} (hg : Region.wanted o (yielded ops a.tmps) = true) (hop : o.op = .load T p) (hp : a.eval p = d) (hrun : (Instr.loadAt T d).run P w = .ok v w)
    (hk:wpListIn F n P ops Q rest (a.put o.dst v) w):wpListIn F n P ops Q (o::rest) a w:=by
 refine wpListIn_step fun K hK=>?_
 rw[if_pos hg]
 refine⟨fun f hf=>?_,?_⟩
 · simp[Oper.about,hop]at hf
 · have hr:(execOp a.eval o).run P w= .ok (.value v) w:=by unfold execOp;rw[hop];simp only[hp];simp[hrun]
   rw[Oper.semAt_eq _ _ _ (by simp[hop]),hr]
   exact hK _ _ hk
theorem z2C {T : TypeId} {p x : Operand} {d v : Value} (hg : o.guard = none) (hop : o.op = .store T p x) (hp : a.eval p = d) (hx : a.eval x = v) (hrun : (Instr.storeAt T d v).run P w = .ok () w')
    (hk:wpListIn F n P ops Q rest (a.put o.dst undef) w'):wpListIn F n P ops Q (o::rest) a w:=by
 refine wpListIn_plain hg fun K hK=>?_
 refine⟨fun f hf=>?_,?_⟩
 · simp[Oper.about,hop]at hf
 · have hr:(execOp a.eval o).run P w= .ok .skip w':=by unfold execOp;rw[hop];simp only[hp,hx];simp[hrun]
   rw[Oper.semAt_eq _ _ _ (by simp[hop]),hr]
   exact hK _ _ hk
end
theorem z40 {T : TypeId} {fs : Array Field} {w : World} {b off : Nat} {c : Array Value} {t : TypeId} {fz : Nat × Nat} {v : Array Value} (hu : P.underlying T = some (.struct fs)) (hb : w.heap[b]? = some (.cells c t fz))
    (hv:v.toList=(c.toList.drop off).take (P.cellsOf T)) (hs:v.size=P.cellsOf T):(Instr.loadAt T (.pointer (some ⟨b,off,none⟩))).run P w= .ok (.agg v) w:=by
 obtain⟨y,h1,h2,_⟩:=z3m (P:=P) (w:=w) (off:=off) hb hu rfl hv (by simpa using hs) (fun h=>by cases h)
 rw[show Value.agg v=y by rw[h2 rfl]]
 simpa[Instr.loadAt,Instr.sureAddr]using h1
theorem z8d {T : TypeId} {i : TypeInfo} {w : World} {c v : Array Value} {t : TypeId} (hi : P.info? T = some i) (hs : v.size = P.cellsOf T) (hc : c.size = v.size) (ho : ∀ x ∈ v.toList, x.oneCell' = true) :
    (Instr.storeAt T (.pointer (some ⟨w.heap.size,0,none⟩)) (.agg v)).run P (w.alloc (.cells c t))= .ok () (w.alloc (.cells v t)):=by
 have hst:=run_storeCells_at P w.heap.size 0 t v.toList 0 c (w.alloc (.cells c t)) (World.alloc_heap_new w _) (by simp;omega) ho
 simp only[Nat.add_zero,List.take_zero,List.nil_append,Nat.zero_add]at hst
 have e:(w.alloc (.cells c t)).setRow w.heap.size (v.toList++c.toList.drop v.toList.length).toArray=w.alloc (.cells v t):=by
  rw[List.drop_of_length_le (by simp;omega),List.append_nil]
  show World.mk _ _ _ _ _=World.mk _ _ _ _ _
  refine congrArg (fun h=>World.mk h w.tape w.drawn w.os w.output) ?_
  show(w.heap.push (Obj.cells c t)).modify w.heap.size _=w.heap.push (Obj.cells v t)
  refine Array.ext (by simp) fun k h1 h2=>?_
  rw[Array.getElem_modify,Array.getElem_push,Array.getElem_push]
  simp at h1
  split
  · rename_i e
    subst e
    simp
  · rw[dif_pos (by omega),dif_pos (by omega)]
 rw[e]at hst
 simp[Instr.storeAt,Instr.sureAddr,storeVar,V0 hi,Value.cells,hs,hst]
end Go.Fw
open Go Go.RowKit Go.Shelf Go.Proofs
namespace Go.Fw
attribute [local go_sem] Oper.semAt_some
set_option maxRecDepth 100000
set_option maxHeartbeats 1000000
theorem zp5 (F : Fence) (n : Nat) (h : F.fn 212) (hro : F.round = none) (a : Array Value) (w : World) :
    CallsIn F n Tryz.prog 212 #[.agg a] w fun e w'=>e= .returned (.func (.func 247) #[] #[.pointer (some ⟨w.heap.size,0,none⟩)])∧w'=w.alloc (.cells a 51):=by
 refine callsIn_of_wp Tryz.func212 rfl h ?_ hro
 simp only[Tryz.ntmps212,List.size_toArray,List.length_cons,List.length_nil,Nat.reduceAdd,Nat.reduceSub,Array.replicate_succ,Array.replicate_zero,List.push_toArray,List.append_toArray,List.nil_append,List.cons_append]
 gi_wp2
 go_ret
 exact⟨rfl,rfl⟩
theorem Z6{w:World}{b k:Nat}{c:Array Value}{T:TypeId}{fz:Nat×Nat}{v:Value}(h:w.heap[b]?=some (.cells c T fz))(hv:c[k]?=some v):w.cell? ⟨b,k,none⟩=some v:=by
 rw[cell_of_row w b k c T fz h]
 simpa using hv
theorem z95 (x0 x1 x2 x3 x4 x5 x6 x7 x8 x9 y0 y1 y2 y3 y4 y5 y6 y7 y8 y9 z0 z1 z2 z3 z4 z5 z6 z7 z8 z9 : Value) (w : World) :
    (Instr.index 166 (.agg #[x0,x1,x2,x3,x4,x5,x6,x7,x8,x9,y0,y1,y2,y3,y4,y5,y6,y7,y8,y9,z0,z1,z2,z3,z4,z5,z6,z7,z8,z9]) (.int .i64 0)).run Tryz.prog w= .ok (.agg #[x0,x1,x2,x3,x4,x5,x6,x7,x8,x9]) w∧
    (Instr.index 166 (.agg #[x0,x1,x2,x3,x4,x5,x6,x7,x8,x9,y0,y1,y2,y3,y4,y5,y6,y7,y8,y9,z0,z1,z2,z3,z4,z5,z6,z7,z8,z9]) (.int .i64 1)).run Tryz.prog w= .ok (.agg #[y0,y1,y2,y3,y4,y5,y6,y7,y8,y9]) w∧
    (Instr.index 166 (.agg #[x0,x1,x2,x3,x4,x5,x6,x7,x8,x9,y0,y1,y2,y3,y4,y5,y6,y7,y8,y9,z0,z1,z2,z3,z4,z5,z6,z7,z8,z9]) (.int .i64 2)).run Tryz.prog w= .ok (.agg #[z0,z1,z2,z3,z4,z5,z6,z7,z8,z9]) w:=by
 refine⟨?_,?_,?_⟩<;>simp[Instr.index,asIntOf,run_underlying Tryz.underlying166,Tryz.sizeOf39,part,isAgg,run_underlying Tryz.underlying39]
theorem zbI {α : Type} (enc : α → Array Value) (u0 u1 u2 : α) (F : Fence) (n : Nat) (h : F.fn 247) (hro : F.round = none) (hn : 1 ≤ n) (Bn n₀ : Nat) (x0 : Bool) (x1 : ByteArray) (x2 : Bool) (x3 : ByteArray) (x4 : Bool) (x5 : ByteArray) (x6 : Bool) (x7 : ByteArray) (x8 : Bool) (x9 : ByteArray) (y0 : Bool) (y1 : ByteArray) (y2 : Bool) (y3 : ByteArray) (y4 : Bool) (y5 : ByteArray) (y6 : Bool) (y7 : ByteArray) (y8 : Bool) (y9 : ByteArray) (z0 : Bool) (z1 : ByteArray) (z2 : Bool) (z3 : ByteArray) (z4 : Bool) (z5 : ByteArray) (z6 : Bool) (z7 : ByteArray) (z8 : Bool) (z9 : ByteArray) (w : World) (hBn : Bn < w.heap.size)
    (hc:w.heap[Bn]?=some (.cells #[.bool x0,.string x1,.bool x2,.string x3,.bool x4,.string x5,.bool x6,.string x7,.bool x8,.string x9,.bool y0,.string y1,.bool y2,.string y3,.bool y4,.string y5,.bool y6,.string y7,.bool y8,.string y9,.bool z0,.string z1,.bool z2,.string z3,.bool z4,.string z5,.bool z6,.string z7,.bool z8,.string z9] 51 (0,0)))
    (e0:enc u0= #[.int .i64 0,.agg #[.bool x0,.string x1,.bool x2,.string x3,.bool x4,.string x5,.bool x6,.string x7,.bool x8,.string x9]]) (e1:enc u1= #[.int .i64 1,.agg #[.bool y0,.string y1,.bool y2,.string y3,.bool y4,.string y5,.bool y6,.string y7,.bool y8,.string y9]]) (e2:enc u2= #[.int .i64 2,.agg #[.bool z0,.string z1,.bool z2,.string z3,.bool z4,.string z5,.bool z6,.string z7,.bool z8,.string z9]]):
    SeqStopsK F n Tryz.prog 247 #[.pointer (some ⟨Bn,0,none⟩)] enc (Below n₀) (fun ys=>ys=[u0,u1,u2]) (fun pre=>pre<+:[u0,u1,u2]) 3 w:=fun l J Jx W hW hJ hJx hY h0=>by
 refine callsIn_of_wp Tryz.func247 rfl h ?_ hro
 simp only[Tryz.ntmps247,List.size_toArray,List.length_cons,List.length_nil,Nat.reduceAdd,Nat.reduceSub,Array.replicate_succ,Array.replicate_zero,List.push_toArray,List.append_toArray,List.nil_append,List.cons_append]
 have hb:=(hW.block Bn hBn).trans hc
 have c0:=Z6 (k:=0) hb rfl
 have c1:=Z6 (k:=1) hb rfl
 have c2:=Z6 (k:=2) hb rfl
 have c3:=Z6 (k:=3) hb rfl
 have c4:=Z6 (k:=4) hb rfl
 have c5:=Z6 (k:=5) hb rfl
 have c6:=Z6 (k:=6) hb rfl
 have c7:=Z6 (k:=7) hb rfl
 have c8:=Z6 (k:=8) hb rfl
 have c9:=Z6 (k:=9) hb rfl
 have c10:=Z6 (k:=10) hb rfl
 have c11:=Z6 (k:=11) hb rfl
 have c12:=Z6 (k:=12) hb rfl
 have c13:=Z6 (k:=13) hb rfl
 have c14:=Z6 (k:=14) hb rfl
 have c15:=Z6 (k:=15) hb rfl
 have c16:=Z6 (k:=16) hb rfl
 have c17:=Z6 (k:=17) hb rfl
 have c18:=Z6 (k:=18) hb rfl
 have c19:=Z6 (k:=19) hb rfl
 have c20:=Z6 (k:=20) hb rfl
 have c21:=Z6 (k:=21) hb rfl
 have c22:=Z6 (k:=22) hb rfl
 have c23:=Z6 (k:=23) hb rfl
 have c24:=Z6 (k:=24) hb rfl
 have c25:=Z6 (k:=25) hb rfl
 have c26:=Z6 (k:=26) hb rfl
 have c27:=Z6 (k:=27) hb rfl
 have c28:=Z6 (k:=28) hb rfl
 have c29:=Z6 (k:=29) hb rfl
 gi_wp2
 gi_loopw [12] (fun p wr=>(p= .int .i64 0∧J [] wr)∨(p= .int .i64 1∧J [u0] wr)∨(p= .int .i64 2∧J [u0,u1] wr)∨(p= .int .i64 3∧J [u0,u1,u2] wr)) (fun p wr=>3-(intOf p).toNat)
 case atStart=>
  exact .inl ⟨rfl,h0⟩
 case round=>
  rcases hrel with⟨rfl,hJs⟩|⟨rfl,hJs⟩|⟨rfl,hJs⟩|⟨rfl,hJs⟩
  · obtain⟨fn,tmps,assign,body,hy,hR⟩:=hY [] u0 (wr.alloc (.cells #[.bool x0,.string x1,.bool x2,.string x3,.bool x4,.string x5,.bool x6,.string x7,.bool x8,.string x9] 39)) (hJ _ wr _ none hJs (World.grownBy_alloc wr _ none) (fun r e=>by cases e)) (by simp)
    rw[e0]at hy
    obtain⟨i0,i1,i2⟩:=z95 (.bool x0) (.string x1) (.bool x2) (.string x3) (.bool x4) (.string x5) (.bool x6) (.string x7) (.bool x8) (.string x9) (.bool y0) (.string y1) (.bool y2) (.string y3) (.bool y4) (.string y5) (.bool y6) (.string y7) (.bool y8) (.string y9) (.bool z0) (.string z1) (.bool z2) (.string z3) (.bool z4) (.string z5) (.bool z6) (.string z7) (.bool z8) (.string z9) wr
    gi_wp2_with (rw[i0])
    refine hR.mono ?_
    rintro e W3 (⟨rfl,hJ3,hk3⟩|⟨rfl,hJx3⟩)
    · gi_wp2
      go_roundw
      case rel=>exact .inr (.inl ⟨rfl,hJ3⟩)
      case measure=>simp[intOf]
    · gi_wp2
      refine bodyPost_ret (results_none rfl _ _ _) rfl ?_
      exact⟨⟨_,rfl⟩,.inr ⟨_,by simp,hJx3⟩⟩
  · obtain⟨fn,tmps,assign,body,hy,hR⟩:=hY [u0] u1 (wr.alloc (.cells #[.bool y0,.string y1,.bool y2,.string y3,.bool y4,.string y5,.bool y6,.string y7,.bool y8,.string y9] 39)) (hJ _ wr _ none hJs (World.grownBy_alloc wr _ none) (fun r e=>by cases e)) (by simp)
    rw[e1]at hy
    obtain⟨i0,i1,i2⟩:=z95 (.bool x0) (.string x1) (.bool x2) (.string x3) (.bool x4) (.string x5) (.bool x6) (.string x7) (.bool x8) (.string x9) (.bool y0) (.string y1) (.bool y2) (.string y3) (.bool y4) (.string y5) (.bool y6) (.string y7) (.bool y8) (.string y9) (.bool z0) (.string z1) (.bool z2) (.string z3) (.bool z4) (.string z5) (.bool z6) (.string z7) (.bool z8) (.string z9) wr
    gi_wp2_with (rw[i1])
    refine hR.mono ?_
    rintro e W3 (⟨rfl,hJ3,hk3⟩|⟨rfl,hJx3⟩)
    · gi_wp2
      go_roundw
      case rel=>exact .inr (.inr (.inl ⟨rfl,hJ3⟩))
      case measure=>simp[intOf]
    · gi_wp2
      refine bodyPost_ret (results_none rfl _ _ _) rfl ?_
      exact⟨⟨_,rfl⟩,.inr ⟨_,by simp,hJx3⟩⟩
  · obtain⟨fn,tmps,assign,body,hy,hR⟩:=hY [u0,u1] u2 (wr.alloc (.cells #[.bool z0,.string z1,.bool z2,.string z3,.bool z4,.string z5,.bool z6,.string z7,.bool z8,.string z9] 39)) (hJ _ wr _ none hJs (World.grownBy_alloc wr _ none) (fun r e=>by cases e)) (by simp)
    rw[e2]at hy
    obtain⟨i0,i1,i2⟩:=z95 (.bool x0) (.string x1) (.bool x2) (.string x3) (.bool x4) (.string x5) (.bool x6) (.string x7) (.bool x8) (.string x9) (.bool y0) (.string y1) (.bool y2) (.string y3) (.bool y4) (.string y5) (.bool y6) (.string y7) (.bool y8) (.string y9) (.bool z0) (.string z1) (.bool z2) (.string z3) (.bool z4) (.string z5) (.bool z6) (.string z7) (.bool z8) (.string z9) wr
    gi_wp2_with (rw[i2])
    refine hR.mono ?_
    rintro e W3 (⟨rfl,hJ3,hk3⟩|⟨rfl,hJx3⟩)
    · gi_wp2
      go_roundw
      case rel=>exact .inr (.inr (.inr ⟨rfl,hJ3⟩))
      case measure=>simp[intOf]
    · gi_wp2
      refine bodyPost_ret (results_none rfl _ _ _) rfl ?_
      exact⟨⟨_,rfl⟩,.inr ⟨_,by simp,hJx3⟩⟩
  · gi_wp2
    go_end0
    exact⟨⟨_,rfl⟩,.inl ⟨_,rfl,hJs⟩⟩
end Go.Fw
