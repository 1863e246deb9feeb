/- A part of the proof that the law returns true for every input: an executor for the model's code, and what functions of the program compute. -/
import Derived.Test.YtcafjpldfnegiaaGreatDoorB05
import Derived.Test.YtcafjpldfnegiaaGreatDoorB06
import Derived.Test.YtcafjpldfnegiaaGreatDoorB11
import Derived.Test.YtcafjpldfnegiaaGreatDoorB15
import Derived.Test.YtcafjpldfnegiaaGreatDoorB22
import Derived.Test.YtcafjpldfnegiaaGreatDoorB41
import Derived.KernelRfl
import Derived.RangeFuncNested
import Derived.RangeFuncBound
import Derived.RangeFuncCalls
import Derived.RangeFuncLeaves
import Derived.Shelf.Abstract
import Derived.Shelf.RegionOpen
import Derived.WalkKit
import Derived.OwnWalkIn
import Derived.TacticsInMore
import Derived.LoopNIn
import Derived.LoopIn
open Go
namespace Go.Fw
set_option maxRecDepth 100000
theorem zdE(v w:VN)(hv:v.raw 1000=true)(hw:w.raw 1000=true):PCall P 172 [v.c,w.c] (z1A v w).c:=by
 have hv':=VN.raw_mono hv (show 1000≤1000000 by decide)
 have hw':=VN.raw_mono hw (show 1000≤1000000 by decide)
 unfold z1A
 cases ev:toV v with
 |none=>exact zm4 v w (z0q ev) hv'
 |some a=>
  cases ew:toV w with
  |none=>exact zjl v w (z4S ev) (z0q ew) hv' hw'
  |some b=>
   obtain⟨x,y,z⟩:=z0u ev hv
   obtain⟨x',y',z'⟩:=z0u ew hw
   rw[z4N ev,z4N ew]
   refine zio _ _ _ _ _ _ ?_ ?_ ?_ ?_ ?_ ?_ ?_ ?_ ?_ ?_ ?_ ?_ ?_ ?_ ?_ ?_ ?_ ?_<;>omega
theorem zdI(x y:RN)(hx:x.raw 1000000=true)(hy:y.raw 1000000=true):PCall P 137 [x.c,y.c] (z4U x y).c:=by
 unfold z4U
 cases ex:toO x with
 |none=>exact zil x y (z0f ex) hx
 |some k=>
  cases ey:toO y with
  |none=>exact zjb x y (z19 ex).1 (z0f ey) hx hy
  |some l=>
   have a:=z1a ex hx
   have b:=z1a ey hy
   rw[zbB (z19 ex).2,zbB (z19 ey).2]
   exact z73 k l (by omega)
theorem zak(x:RN)(hx:x.raw 1000000=true):PCall P 121 [x.c] (z4f x).c:=by
 unfold z4f
 cases ex:toO x with
 |none=>exact zk0 x (z0f ex) hx
 |some k=>
  have a:=z1a ex hx
  rw[zbB (z19 ex).2]
  exact zaR k (by simp only[Smk];omega)
end Go.Fw
open Go IntKind
namespace Go.Fw
set_option maxRecDepth 100000
theorem zpp(a b c:Int)(h1:(a==b)=true):PCall P 208 [j5 a,j5 b,j5 c] (.lit (.int .i64 a)):=
 j3 (.b 4 h1 .nil) (by kernel_rfl)
theorem znc(a b c:Int)(h1:(a==b)=false)(h2:(b==0)=true):PCall P 208 [j5 a,j5 b,j5 c] (.lit (.int .i64 a)):=
 j3 (.b 4 h1 (.b 9 h2 .nil)) (by kernel_rfl)
theorem znD(a b c:Int)(h1:(a==b)=false)(h2:(b==0)=false)(h3:(a==0)=true):PCall P 208 [j5 a,j5 b,j5 c] (.lit (.int .i64 b)):=
 j3 (.b 4 h1 (.b 9 h2 (.b 13 h3 .nil))) (by kernel_rfl)
theorem zoM(a b c:Int)(h1:(a==b)=false)(h2:(b==0)=false)(h3:(a==0)=false):PCall P 208 [j5 a,j5 b,j5 c] (.lit (.int .i64 (i64.wrap (a*c)))):=
 j3 (.b 4 h1 (.b 9 h2 (.b 13 h3 .nil))) (by kernel_rfl)
theorem zoU(k a b:Int)(s4_0:(-9223372036854775808:Int)≤k∧k≤9223372036854775807)(s7_0:SmlZ a)(s7_1:SmlZ b)(s7_2:Sml (a.natAbs*b.natAbs))(s8_0:SmlZ k)(s8_1:SmlZ (a*b))(s8_2:Sml (k.natAbs*(a*b).natAbs)):PCall P 210 [j5 k,J7 a,J7 b] (.agg [.lit (.bool (decide (k*(a*b)<0))),.lit (.string (bytesOf (k*(a*b)).natAbs))]):=
 j3 (.r 4 (z1k (k) s4_0) (.r 7 (z04 (a) (b) s7_0 s7_1 s7_2) (.r 8 (z04 (k) (a*b) s8_0 s8_1 s8_2) (.c (lq 2 2) .nil)))) (by kernel_rfl)
end Go.Fw
open Go
namespace Go.Fw
set_option maxRecDepth 100000
def z5a(a b c:Int):Int:=if a=b∨b=0 then a else if a=0 then b else a*c
theorem z2Q(a b c:Int)(ha: -1≤a∧a≤1)(hc: -1≤c∧c≤1):PCall P 208 [j5 a,j5 b,j5 c] (j5 (z5a a b c)):=by
 unfold z5a
 by_cases h1:a=b
 · rw[if_pos (.inl h1)]
   exact zpp a b c (by simp[h1])
 · by_cases h2:b=0
   · rw[if_pos (.inr h2)]
     exact znc a b c (by simp[h1]) (by simp[h2])
   · rw[if_neg (by rintro(h|h)<;>contradiction)]
     by_cases h3:a=0
     · rw[if_pos h3]
       exact znD a b c (by simp[h1]) (by simp[h2]) (by simp[h3])
     · rw[if_neg h3]
       have:=zoM a b c (by simp[h1]) (by simp[h2]) (by simp[h3])
       have hw:IntKind.i64.wrap (a*c)=a*c:=by
        have:a= -1∨a=1:=by omega
        rcases this with h|h<;>rw[h]<;>exact w64 (by omega)
       rwa[hw]at this
theorem z9L(k a b:Int){n m:Nat}(hk: -100≤k∧k≤100)(ha:By n a)(hb:By m b)(hn:n+m+1<1073741824):PCall P 210 [j5 k,J7 a,J7 b] (J7 (k*(a*b))):=by
 have hk':By 1 k:=by unfold By;omega
 have hab:=ha.mul hb
 exact zoU k a b (by omega) (ha.sml (by omega)) (hb.sml (by omega)) (ha.sm2 hb (by omega)) (hk'.sml (by decide)) (hab.sml (by omega)) (hk'.sm2 hab (by omega))
end Go.Fw
open Go IntKind
namespace Go.Fw
set_option maxRecDepth 100000
theorem znz(a b:Int)(s5_0:SmlZ a)(s5_1:SmlZ b)(s5_2:Sml (a.natAbs+b.natAbs)):PCall P 246 [J7 a,J7 b] (.lit (.int .i64 (a-b).sign)):=
 j3 (.r 5 (za8 (a) (b) s5_0 s5_1 s5_2) (.r 6 (z14 (a-b)) .nil)) (by kernel_rfl)
end Go.Fw
open Go
namespace Go.Fw
set_option maxRecDepth 100000
def Two(a b:Int):Prop:= ∃n,n≤500000000∧By n a∧By n b
theorem z2q(k a b:Int)(hk: -100≤k∧k≤100)(h:Two a b):PCall P 210 [j5 k,J7 a,J7 b] (J7 (k*(a*b))):=by
 obtain⟨n,hn,ha,hb⟩:=h
 exact z9L k a b hk ha hb (by omega)
theorem zdF(a b:Int)(h:Two a b):PCall P 246 [J7 a,J7 b] (j5 (a-b).sign):=by
 obtain⟨n,hn,ha,hb⟩:=h
 exact znz a b (ha.sml (by omega)) (hb.sml (by omega)) (ha.sma hb (by omega))
theorem zoZ(a b:Int)(h:Two a b):PCall P 203 [J7 a,J7 b] (J7 (a*b)):=by
 obtain⟨n,hn,ha,hb⟩:=h
 exact z04 a b (ha.sml (by omega)) (hb.sml (by omega)) (ha.sm2 hb (by omega))
theorem zhA(a b:Int)(h:Two a b):PCall P 202 [J7 a,J7 b] (J7 (a+b)):=by
 obtain⟨n,hn,ha,hb⟩:=h
 exact z2j a b (ha.sml (by omega)) (hb.sml (by omega)) (ha.sma hb (by omega))
theorem zht(a b:Int)(h:Two a b):PCall P 209 [J7 a,J7 b] (J7 (a-b)):=by
 obtain⟨n,hn,ha,hb⟩:=h
 exact za8 a b (ha.sml (by omega)) (hb.sml (by omega)) (ha.sma hb (by omega))
end Go.Fw
open Go IntKind
namespace Go.Fw
set_option maxRecDepth 100000
theorem zq7(a b:Int)(s9_0:Two a a)(s12_0:(-100:Int)≤2∧(2:Int)≤100)(s12_1:Two b b)(s13_0:Two (a*a) ((2:Int)*(b*b)))(s14_0:(-1:Int)≤a.sign∧a.sign≤1)(s14_1:(-1:Int)≤(a*a-2*(b*b)).sign∧(a*a-2*(b*b)).sign≤1):PCall P 207 [J7 a,J7 b] (.lit (.int .i64 (z5a a.sign b.sign (a*a-2*(b*b)).sign))):=
 j3 (.r 4 (z14 (a)) (.r 6 (z14 (b)) (.r 9 (zoZ (a) (a) s9_0) (.r 12 (z2q ((2:Int)) (b) (b) s12_0 s12_1) (.r 13 (zdF (a*a) ((2:Int)*(b*b)) s13_0) (.r 14 (z2Q (a.sign) (b.sign) ((a*a-2*(b*b)).sign) s14_0 s14_1) .nil)))))) (by kernel_rfl)
end Go.Fw
open Go
namespace Go.Fw
set_option maxRecDepth 100000
def sg2(a b:Int):Int:=z5a a.sign b.sign (a*a-2*(b*b)).sign
theorem z3n(a:Int): -1≤a.sign∧a.sign≤1:=by
 rcases Int.lt_trichotomy a 0 with h|h|h
 · rw[Int.sign_eq_neg_one_of_neg h];decide
 · rw[h];decide
 · rw[Int.sign_eq_one_of_pos h];decide
theorem zjE{a b c:Int}(ha: -1≤a∧a≤1)(hb: -1≤b∧b≤1)(hc: -1≤c∧c≤1): -1≤z5a a b c∧z5a a b c≤1:=by
 unfold z5a
 split
 · exact ha
 · split
   · exact hb
   · have:a= -1∨a=0∨a=1:=by omega
     rcases this with h|h|h<;>rw[h]<;>omega
theorem zax(a b:Int): -1≤sg2 a b∧sg2 a b≤1:=zjE (z3n a) (z3n b) (z3n _)
def z5w(a b:Int):Prop:= ∃n,n≤100000000∧By n a∧By n b
theorem By.two{a:Int}{n:Nat}(h:By n a):By (n+1) (2*a):=by
 have:By 1 2:=by unfold By;decide
 have:=this.mul h
 rwa[Nat.add_comm]at this
theorem z1f(a b:Int)(h:z5w a b):PCall P 207 [J7 a,J7 b] (j5 (sg2 a b)):=by
 obtain⟨n,hn,ha,hb⟩:=h
 exact zq7 a b ⟨n,by omega,ha,ha⟩ (by decide) ⟨n,by omega,hb,hb⟩ ⟨n+n+1,by omega,(ha.mul ha).mono (by omega),(hb.mul hb).two⟩ (z3n _) (z3n _)
end Go.Fw
open Go IntKind
namespace Go.Fw
set_option maxRecDepth 100000
theorem zne(x:K)(h1:(sg2 x.c0 x.c1==sg2 x.c2 x.c3)=true)(s3_0:Smk x)(s28_0:z5w x.c0 x.c1)(s31_0:z5w x.c2 x.c3)(s48_0:(-1:Int)≤sg2 x.c0 x.c1∧sg2 x.c0 x.c1≤1)(s48_1:(-1:Int)≤0∧(0:Int)≤1):PCall P 146 [Q1 x] (.lit (.int .i64 (z5a (sg2 x.c0 x.c1) (sg2 x.c2 x.c3) (0:Int)))):=
 j3 (.r 3 (z0p (x) s3_0) (.c (bq 0 4) (.c (bq 1 4) (.c (bq 2 4) (.c (bq 3 4) (.c (lq 2 2) (.c (lq 2 2) (.c (lq 2 2) (.c (lq 2 2) (.r 28 (z1f (x.c0) (x.c1) s28_0) (.r 31 (z1f (x.c2) (x.c3) s31_0) (.b 37 h1 (.r 48 (z2Q (sg2 x.c0 x.c1) (sg2 x.c2 x.c3) ((0:Int)) s48_0 s48_1) .nil))))))))))))) (by kernel_rfl)
theorem zp7(x:K)(h1:(sg2 x.c0 x.c1==sg2 x.c2 x.c3)=false)(h2:(sg2 x.c2 x.c3==0)=true)(s3_0:Smk x)(s28_0:z5w x.c0 x.c1)(s31_0:z5w x.c2 x.c3)(s48_0:(-1:Int)≤sg2 x.c0 x.c1∧sg2 x.c0 x.c1≤1)(s48_1:(-1:Int)≤0∧(0:Int)≤1):PCall P 146 [Q1 x] (.lit (.int .i64 (z5a (sg2 x.c0 x.c1) (sg2 x.c2 x.c3) (0:Int)))):=
 j3 (.r 3 (z0p (x) s3_0) (.c (bq 0 4) (.c (bq 1 4) (.c (bq 2 4) (.c (bq 3 4) (.c (lq 2 2) (.c (lq 2 2) (.c (lq 2 2) (.c (lq 2 2) (.r 28 (z1f (x.c0) (x.c1) s28_0) (.r 31 (z1f (x.c2) (x.c3) s31_0) (.b 37 h1 (.b 41 h2 (.r 48 (z2Q (sg2 x.c0 x.c1) (sg2 x.c2 x.c3) ((0:Int)) s48_0 s48_1) .nil)))))))))))))) (by kernel_rfl)
theorem zmZ(x:K)(h1:(sg2 x.c0 x.c1==sg2 x.c2 x.c3)=false)(h2:(sg2 x.c2 x.c3==0)=false)(h3:(sg2 x.c0 x.c1==0)=true)(s3_0:Smk x)(s28_0:z5w x.c0 x.c1)(s31_0:z5w x.c2 x.c3)(s48_0:(-1:Int)≤sg2 x.c0 x.c1∧sg2 x.c0 x.c1≤1)(s48_1:(-1:Int)≤0∧(0:Int)≤1):PCall P 146 [Q1 x] (.lit (.int .i64 (z5a (sg2 x.c0 x.c1) (sg2 x.c2 x.c3) (0:Int)))):=
 j3 (.r 3 (z0p (x) s3_0) (.c (bq 0 4) (.c (bq 1 4) (.c (bq 2 4) (.c (bq 3 4) (.c (lq 2 2) (.c (lq 2 2) (.c (lq 2 2) (.c (lq 2 2) (.r 28 (z1f (x.c0) (x.c1) s28_0) (.r 31 (z1f (x.c2) (x.c3) s31_0) (.b 37 h1 (.b 41 h2 (.b 45 h3 (.r 48 (z2Q (sg2 x.c0 x.c1) (sg2 x.c2 x.c3) ((0:Int)) s48_0 s48_1) .nil))))))))))))))) (by kernel_rfl)
theorem zoK(x:K)(h1:(sg2 x.c0 x.c1==sg2 x.c2 x.c3)=false)(h2:(sg2 x.c2 x.c3==0)=false)(h3:(sg2 x.c0 x.c1==0)=false)(s3_0:Smk x)(s28_0:z5w x.c0 x.c1)(s31_0:z5w x.c2 x.c3)(s48_0:(-100:Int)≤1∧(1:Int)≤100)(s48_1:Two x.c0 x.c0)(s51_0:(-100:Int)≤2∧(2:Int)≤100)(s51_1:Two x.c1 x.c1)(s52_0:Two ((1:Int)*(x.c0*x.c0)) ((2:Int)*(x.c1*x.c1)))(s55_0:(-100:Int)≤3∧(3:Int)≤100)(s55_1:Two x.c2 x.c2)(s58_0:(-100:Int)≤6∧(6:Int)≤100)(s58_1:Two x.c3 x.c3)(s59_0:Two ((3:Int)*(x.c2*x.c2)) ((6:Int)*(x.c3*x.c3)))(s60_0:Two ((1:Int)*(x.c0*x.c0)+2*(x.c1*x.c1)) ((3:Int)*(x.c2*x.c2)+6*(x.c3*x.c3)))(s65_0:(-100:Int)≤2∧(2:Int)≤100)(s65_1:Two x.c0 x.c1)(s68_0:(-100:Int)≤6∧(6:Int)≤100)(s68_1:Two x.c2 x.c3)(s69_0:Two ((2:Int)*(x.c0*x.c1)) ((6:Int)*(x.c2*x.c3)))(s76_0:z5w ((1:Int)*(x.c0*x.c0)+2*(x.c1*x.c1)-((3:Int)*(x.c2*x.c2)+6*(x.c3*x.c3))) ((2:Int)*(x.c0*x.c1)-6*(x.c2*x.c3)))(s77_0:(-1:Int)≤sg2 x.c0 x.c1∧sg2 x.c0 x.c1≤1)(s77_1:(-1:Int)≤sg2 ((1:Int)*(x.c0*x.c0)+2*(x.c1*x.c1)-((3:Int)*(x.c2*x.c2)+6*(x.c3*x.c3))) ((2:Int)*(x.c0*x.c1)-6*(x.c2*x.c3))∧sg2 ((1:Int)*(x.c0*x.c0)+2*(x.c1*x.c1)-((3:Int)*(x.c2*x.c2)+6*(x.c3*x.c3))) ((2:Int)*(x.c0*x.c1)-6*(x.c2*x.c3))≤1):PCall P 146 [Q1 x] (.lit (.int .i64 (z5a (sg2 x.c0 x.c1) (sg2 x.c2 x.c3) (sg2 ((1:Int)*(x.c0*x.c0)+2*(x.c1*x.c1)-((3:Int)*(x.c2*x.c2)+6*(x.c3*x.c3))) ((2:Int)*(x.c0*x.c1)-6*(x.c2*x.c3)))))):=
 j3 (.r 3 (z0p (x) s3_0) (.c (bq 0 4) (.c (bq 1 4) (.c (bq 2 4) (.c (bq 3 4) (.c (lq 2 2) (.c (lq 2 2) (.c (lq 2 2) (.c (lq 2 2) (.r 28 (z1f (x.c0) (x.c1) s28_0) (.r 31 (z1f (x.c2) (x.c3) s31_0) (.b 37 h1 (.b 41 h2 (.b 45 h3 (.r 48 (z2q ((1:Int)) (x.c0) (x.c0) s48_0 s48_1) (.r 51 (z2q ((2:Int)) (x.c1) (x.c1) s51_0 s51_1) (.r 52 (zhA ((1:Int)*(x.c0*x.c0)) ((2:Int)*(x.c1*x.c1)) s52_0) (.r 55 (z2q ((3:Int)) (x.c2) (x.c2) s55_0 s55_1) (.r 58 (z2q ((6:Int)) (x.c3) (x.c3) s58_0 s58_1) (.r 59 (zhA ((3:Int)*(x.c2*x.c2)) ((6:Int)*(x.c3*x.c3)) s59_0) (.r 60 (zht ((1:Int)*(x.c0*x.c0)+2*(x.c1*x.c1)) ((3:Int)*(x.c2*x.c2)+6*(x.c3*x.c3)) s60_0) (.c (lq 2 2) (.r 65 (z2q ((2:Int)) (x.c0) (x.c1) s65_0 s65_1) (.r 68 (z2q ((6:Int)) (x.c2) (x.c3) s68_0 s68_1) (.r 69 (zht ((2:Int)*(x.c0*x.c1)) ((6:Int)*(x.c2*x.c3)) s69_0) (.c (lq 2 2) (.r 76 (z1f ((1:Int)*(x.c0*x.c0)+2*(x.c1*x.c1)-((3:Int)*(x.c2*x.c2)+6*(x.c3*x.c3))) ((2:Int)*(x.c0*x.c1)-6*(x.c2*x.c3)) s76_0) (.r 77 (z2Q (sg2 x.c0 x.c1) (sg2 x.c2 x.c3) (sg2 ((1:Int)*(x.c0*x.c0)+2*(x.c1*x.c1)-((3:Int)*(x.c2*x.c2)+6*(x.c3*x.c3))) ((2:Int)*(x.c0*x.c1)-6*(x.c2*x.c3))) s77_0 s77_1) .nil)))))))))))))))))))))))))))) (by kernel_rfl)
end Go.Fw
open Go
namespace Go.Fw
set_option maxRecDepth 100000
section
variable{R:Type}[CR R][Sg R] {m:R}[im:Sg.Irr m]
theorem Adj.sg_mix(x:Adj R m):Adj.sg x=z5a (Sg.sg x.re) (Sg.sg x.im) (Sg.sg (Adj.nm x)):=by
 have hz:=Adj.nm_zero x
 rcases Sg.vals (Adj.nm x)with hn|hn|hn
 · -- the second part is the greater
   have hi:=Adj.im_ne hn
   have e:Adj.sg x=Sg.sg x.im:=by unfold Adj.sg;rw[hn,if_neg (by decide),if_pos rfl]
   rw[e,hn]
   unfold z5a
   rcases Sg.vals x.re with ha|ha|ha<;>rcases Sg.vals x.im with hb|hb|hb<;>rw[ha,hb]<;>first|rfl|exact absurd hb hi
 · have e:Adj.sg x=0:=by unfold Adj.sg;rw[hn,if_neg (by decide),if_neg (by decide)]
   have h0:=hz.1 hn
   have hr:Sg.sg x.re=0:=by rw[h0];exact(Sg.zero _).2 rfl
   have hi:Sg.sg x.im=0:=by rw[h0];exact(Sg.zero _).2 rfl
   rw[e,hr,hi];rfl
 · have hr:=Adj.re_ne hn
   have e:Adj.sg x=Sg.sg x.re:=by unfold Adj.sg;rw[hn,if_pos rfl]
   rw[e,hn]
   unfold z5a
   rcases Sg.vals x.re with ha|ha|ha<;>rcases Sg.vals x.im with hb|hb|hb<;>rw[ha,hb]<;>first|rfl|exact absurd ha hr
end
theorem zde(a b:Int):sg2 a b=Adj.sg (⟨a,b⟩:Z2):=by
 rw[Adj.sg_mix];rfl
theorem z2V{a b c c':Int}(h:a=b∨b=0∨a=0):z5a a b c=z5a a b c':=by
 unfold z5a
 rcases h with h|h|h
 · rw[if_pos (.inl h),if_pos (.inl h)]
 · rw[if_pos (.inr h),if_pos (.inr h)]
 · rw[if_pos h,if_pos h]
def zqK(x:K):Int:=z5a (sg2 x.c0 x.c1) (sg2 x.c2 x.c3) (sg2 (1*(x.c0*x.c0)+2*(x.c1*x.c1)-(3*(x.c2*x.c2)+6*(x.c3*x.c3))) (2*(x.c0*x.c1)-6*(x.c2*x.c3)))
theorem zdN(x:K):zqK x=K.sgn x:=by
 show _=Adj.sg (K.num x)
 rw[Adj.sg_mix]
 unfold zqK
 rw[zde,zde,zde]
 show z5a _ _ _=z5a (Adj.sg (K.num x).re) (Adj.sg (K.num x).im) (Adj.sg (Adj.nm (K.num x)))
 congr 2
 refine Adj.ext ?_ ?_
 · show 1*(x.c0*x.c0)+2*(x.c1*x.c1)-(3*(x.c2*x.c2)+6*(x.c3*x.c3))=x.c0*x.c0+2*(x.c1*x.c1)-(3*(x.c2*x.c2+2*(x.c3*x.c3))+2*(0*(x.c2*x.c3+x.c3*x.c2)))
   grind
 · show 2*(x.c0*x.c1)-6*(x.c2*x.c3)=x.c0*x.c1+x.c1*x.c0-(3*(x.c2*x.c3+x.c3*x.c2)+0*(x.c2*x.c2+2*(x.c3*x.c3)))
   grind
end Go.Fw
open Go
namespace Go.Fw
set_option maxRecDepth 100000
theorem By.k{a k:Int}{n:Nat}(hk: -100≤k∧k≤100)(h:By n a):By (n+1) (k*a):=by
 have:By 1 k:=by unfold By;omega
 have:=this.mul h
 rwa[Nat.add_comm]at this
theorem By.sub{a b:Int}{n:Nat}(h:By n a)(k:By n b):By (n+1) (a-b):=by
 have:=h.add k.neg
 rwa[←Int.sub_eq_add_neg]at this
theorem zlb(x:K)(hx:x.sz≤10000000):PCall P 146 [Q1 x] (j5 (K.sgn x)):=by
 obtain⟨x0,x1,x2,x3,_⟩:=By.of_sz hx
 have hs:Smk x:=by simp only[Smk];omega
 have t01:z5w x.c0 x.c1:=⟨_,by decide,x0,x1⟩
 have t23:z5w x.c2 x.c3:=⟨_,by decide,x2,x3⟩
 have b1:=zax x.c0 x.c1
 rw[←zdN]
 unfold zqK
 by_cases h1:sg2 x.c0 x.c1=sg2 x.c2 x.c3
 · rw[z2V (c':=0) (.inl h1)]
   exact zne x (by simp[h1]) hs t01 t23 b1 (by decide)
 · by_cases h2:sg2 x.c2 x.c3=0
   · rw[z2V (c':=0) (.inr (.inl h2))]
     exact zp7 x (beq_false_of_ne h1) (by simp[h2]) hs t01 t23 b1 (by decide)
   · by_cases h3:sg2 x.c0 x.c1=0
     · rw[z2V (c':=0) (.inr (.inr h3))]
       exact zmZ x (beq_false_of_ne h1) (beq_false_of_ne h2) (by simp[h3]) hs t01 t23 b1 (by decide)
     · obtain⟨n,hn,hy⟩: ∃n,n≤10000000∧x.sz≤n:=⟨_,Nat.le_refl _,hx⟩
       obtain⟨y0,y1,y2,y3,_⟩:=By.of_sz hy
       have tw: ∀{a b:Int},By n a→By n b→Two a b:=fun ha hb=>⟨n,by omega,ha,hb⟩
       have q0:=(y0.mul y0).k (k:=1) (by decide)
       have q1:=(y1.mul y1).k (k:=2) (by decide)
       have q2:=(y2.mul y2).k (k:=3) (by decide)
       have q3:=(y3.mul y3).k (k:=6) (by decide)
       have r1:=(y0.mul y1).k (k:=2) (by decide)
       have r2:=(y2.mul y3).k (k:=6) (by decide)
       have u1:=q0.add q1
       have u2:=q2.add q3
       exact zoK x (beq_false_of_ne h1) (beq_false_of_ne h2) (beq_false_of_ne h3) hs t01 t23 (by decide) (tw y0 y0) (by decide) (tw y1 y1) ⟨_,by omega,q0,q1⟩ (by decide) (tw y2 y2) (by decide) (tw y3 y3) ⟨_,by omega,q2,q3⟩ ⟨_,by omega,u1,u2⟩
        (by decide) (tw y0 y1) (by decide) (tw y2 y3) ⟨_,by omega,r1,r2⟩ ⟨_,by omega,u1.sub u2,(r1.sub r2).mono (Nat.le_succ _)⟩ b1 (zax _ _)
noncomputable def z50(x:RN):Int:=match toO x with
 |some k=>K.sgn k
 |none=>0
theorem z6y(x:RN)(hx:x.raw 1000000=true):PCall P 146 [x.c] (j5 (z50 x)):=by
 unfold z50
 cases ex:toO x with
 |none=>exact zlk x (z0f ex) hx
 |some k=>
  have a:=z1a ex hx
  rw[zbB (z19 ex).2]
  exact zlb k (by omega)
end Go.Fw
open Go Go.RowKit Go.Shelf Go.Proofs
namespace Go.Fw
section
variable{F:Fence}{n:Nat}{P:Program}{ops:Array Oper}{Q:Exit→Act→World→Prop}{a:Act}{w w':World}{rest:List Oper}{o:Oper}
theorem z3i {T : TypeId} {p : Operand} {d : Value} {v : Value} (hg : o.guard = none) (hop : o.op = .load T p) (hp : a.eval p = d) (hrun : (Instr.loadAt T d).run P w = .ok v w)
    (hk:wpListIn F n P ops Q rest (a.put o.dst v) w):wpListIn F n P ops Q (o::rest) a w:=by
 refine wpListIn_plain hg fun K hK=>?_
 refine⟨fun f hf=>?_,?_⟩
 · simp[Oper.about,hop]at hf
 · have hr:(execOp a.eval o).run P w= .ok (.value v) w:=by unfold execOp;rw[hop];simp only[hp];simp[hrun]
   rw[Oper.semAt_eq _ _ _ (by simp[hop]),hr]
   exact hK _ _ hk
theorem z68 {T : TypeId} {p x : Operand} {d v : Value} (hg : o.guard = none) (hop : o.op = .store T p x) (hp : a.eval p = d) (hx : a.eval x = v) (hrun : (Instr.storeAt T d v).run P w = .ok () w')
    (hk:wpListIn F n P ops Q rest (a.put o.dst undef) w'):wpListIn F n P ops Q (o::rest) a w:=by
 refine wpListIn_plain hg fun K hK=>?_
 refine⟨fun f hf=>?_,?_⟩
 · simp[Oper.about,hop]at hf
 · have hr:(execOp a.eval o).run P w= .ok .skip w':=by unfold execOp;rw[hop];simp only[hp,hx];simp[hrun]
   rw[Oper.semAt_eq _ _ _ (by simp[hop]),hr]
   exact hK _ _ hk
end
theorem zaw {T : TypeId} {fs : Array Field} {w : World} {b off : Nat} {c : Array Value} {t : TypeId} {fz : Nat × Nat} {v : Array Value} (hu : P.underlying T = some (.struct fs)) (hb : w.heap[b]? = some (.cells c t fz))
    (hv:v.toList=(c.toList.drop off).take (P.cellsOf T)) (hs:v.size=P.cellsOf T):(Instr.loadAt T (.pointer (some ⟨b,off,none⟩))).run P w= .ok (.agg v) w:=by
 obtain⟨y,h1,h2,_⟩:=z5S (P:=P) (w:=w) (off:=off) hb hu rfl hv (by simpa using hs) (fun h=>by cases h)
 rw[show Value.agg v=y by rw[h2 rfl]]
 simpa[Instr.loadAt,Instr.sureAddr]using h1
theorem z8C {T : TypeId} {i : TypeInfo} {w : World} {c v : Array Value} {t : TypeId} (hi : P.info? T = some i) (hs : v.size = P.cellsOf T) (hc : c.size = v.size) (ho : ∀ x ∈ v.toList, x.oneCell' = true) :
    (Instr.storeAt T (.pointer (some ⟨w.heap.size,0,none⟩)) (.agg v)).run P (w.alloc (.cells c t))= .ok () (w.alloc (.cells v t)):=by
 have hst:=run_storeCells_at P w.heap.size 0 t v.toList 0 c (w.alloc (.cells c t)) (World.alloc_heap_new w _) (by simp;omega) ho
 simp only[Nat.add_zero,List.take_zero,List.nil_append,Nat.zero_add]at hst
 have e:(w.alloc (.cells c t)).setRow w.heap.size (v.toList++c.toList.drop v.toList.length).toArray=w.alloc (.cells v t):=by
  rw[List.drop_of_length_le (by simp;omega),List.append_nil]
  show World.mk _ _ _ _ _=World.mk _ _ _ _ _
  refine congrArg (fun h=>World.mk h w.tape w.drawn w.os w.output) ?_
  show(w.heap.push (Obj.cells c t)).modify w.heap.size _=w.heap.push (Obj.cells v t)
  refine Array.ext (by simp) fun k h1 h2=>?_
  rw[Array.getElem_modify,Array.getElem_push,Array.getElem_push]
  simp at h1
  split
  · rename_i e
    subst e
    simp
  · rw[dif_pos (by omega),dif_pos (by omega)]
 rw[e]at hst
 simp[Instr.storeAt,Instr.sureAddr,storeVar,X7 hi,Value.cells,hs,hst]
end Go.Fw
open Go Go.RowKit Go.Shelf Go.Proofs
namespace Go.Fw
attribute [local go_sem] Oper.semAt_some
set_option maxRecDepth 100000
set_option maxHeartbeats 1000000
theorem zqw (F : Fence) (n : Nat) (h : F.fn 212) (hro : F.round = none) (a : Array Value) (w : World) :
    CallsIn F n Tryz.prog 212 #[.agg a] w fun e w'=>e= .returned (.func (.func 247) #[] #[.pointer (some ⟨w.heap.size,0,none⟩)])∧w'=w.alloc (.cells a 51):=by
 refine callsIn_of_wp Tryz.func212 rfl h ?_ hro
 simp only[Tryz.ntmps212,List.size_toArray,List.length_cons,List.length_nil,Nat.reduceAdd,Nat.reduceSub,Array.replicate_succ,Array.replicate_zero,List.push_toArray,List.append_toArray,List.nil_append,List.cons_append]
 gi_wp2
 go_ret
 exact⟨rfl,rfl⟩
theorem Y1{w:World}{b k:Nat}{c:Array Value}{T:TypeId}{fz:Nat×Nat}{v:Value}(h:w.heap[b]?=some (.cells c T fz))(hv:c[k]?=some v):w.cell? ⟨b,k,none⟩=some v:=by
 rw[cell_of_row w b k c T fz h]
 simpa using hv
theorem z9t (x0 x1 x2 x3 x4 x5 x6 x7 x8 x9 y0 y1 y2 y3 y4 y5 y6 y7 y8 y9 z0 z1 z2 z3 z4 z5 z6 z7 z8 z9 : Value) (w : World) :
    (Instr.index 166 (.agg #[x0,x1,x2,x3,x4,x5,x6,x7,x8,x9,y0,y1,y2,y3,y4,y5,y6,y7,y8,y9,z0,z1,z2,z3,z4,z5,z6,z7,z8,z9]) (.int .i64 0)).run Tryz.prog w= .ok (.agg #[x0,x1,x2,x3,x4,x5,x6,x7,x8,x9]) w∧
    (Instr.index 166 (.agg #[x0,x1,x2,x3,x4,x5,x6,x7,x8,x9,y0,y1,y2,y3,y4,y5,y6,y7,y8,y9,z0,z1,z2,z3,z4,z5,z6,z7,z8,z9]) (.int .i64 1)).run Tryz.prog w= .ok (.agg #[y0,y1,y2,y3,y4,y5,y6,y7,y8,y9]) w∧
    (Instr.index 166 (.agg #[x0,x1,x2,x3,x4,x5,x6,x7,x8,x9,y0,y1,y2,y3,y4,y5,y6,y7,y8,y9,z0,z1,z2,z3,z4,z5,z6,z7,z8,z9]) (.int .i64 2)).run Tryz.prog w= .ok (.agg #[z0,z1,z2,z3,z4,z5,z6,z7,z8,z9]) w:=by
 refine⟨?_,?_,?_⟩<;>simp[Instr.index,asIntOf,run_underlying Tryz.underlying166,Tryz.sizeOf39,part,isAgg,run_underlying Tryz.underlying39]
theorem zcQ {α : Type} (enc : α → Array Value) (u0 u1 u2 : α) (F : Fence) (n : Nat) (h : F.fn 247) (hro : F.round = none) (hn : 1 ≤ n) (Bn n₀ : Nat) (x0 : Bool) (x1 : ByteArray) (x2 : Bool) (x3 : ByteArray) (x4 : Bool) (x5 : ByteArray) (x6 : Bool) (x7 : ByteArray) (x8 : Bool) (x9 : ByteArray) (y0 : Bool) (y1 : ByteArray) (y2 : Bool) (y3 : ByteArray) (y4 : Bool) (y5 : ByteArray) (y6 : Bool) (y7 : ByteArray) (y8 : Bool) (y9 : ByteArray) (z0 : Bool) (z1 : ByteArray) (z2 : Bool) (z3 : ByteArray) (z4 : Bool) (z5 : ByteArray) (z6 : Bool) (z7 : ByteArray) (z8 : Bool) (z9 : ByteArray) (w : World) (hBn : Bn < w.heap.size)
    (hc:w.heap[Bn]?=some (.cells #[.bool x0,.string x1,.bool x2,.string x3,.bool x4,.string x5,.bool x6,.string x7,.bool x8,.string x9,.bool y0,.string y1,.bool y2,.string y3,.bool y4,.string y5,.bool y6,.string y7,.bool y8,.string y9,.bool z0,.string z1,.bool z2,.string z3,.bool z4,.string z5,.bool z6,.string z7,.bool z8,.string z9] 51 (0,0)))
    (e0:enc u0= #[.int .i64 0,.agg #[.bool x0,.string x1,.bool x2,.string x3,.bool x4,.string x5,.bool x6,.string x7,.bool x8,.string x9]]) (e1:enc u1= #[.int .i64 1,.agg #[.bool y0,.string y1,.bool y2,.string y3,.bool y4,.string y5,.bool y6,.string y7,.bool y8,.string y9]]) (e2:enc u2= #[.int .i64 2,.agg #[.bool z0,.string z1,.bool z2,.string z3,.bool z4,.string z5,.bool z6,.string z7,.bool z8,.string z9]]):
    SeqStopsK F n Tryz.prog 247 #[.pointer (some ⟨Bn,0,none⟩)] enc (Below n₀) (fun ys=>ys=[u0,u1,u2]) (fun pre=>pre<+:[u0,u1,u2]) 3 w:=fun l J Jx W hW hJ hJx hY h0=>by
 refine callsIn_of_wp Tryz.func247 rfl h ?_ hro
 simp only[Tryz.ntmps247,List.size_toArray,List.length_cons,List.length_nil,Nat.reduceAdd,Nat.reduceSub,Array.replicate_succ,Array.replicate_zero,List.push_toArray,List.append_toArray,List.nil_append,List.cons_append]
 have hb:=(hW.block Bn hBn).trans hc
 have c0:=Y1 (k:=0) hb rfl
 have c1:=Y1 (k:=1) hb rfl
 have c2:=Y1 (k:=2) hb rfl
 have c3:=Y1 (k:=3) hb rfl
 have c4:=Y1 (k:=4) hb rfl
 have c5:=Y1 (k:=5) hb rfl
 have c6:=Y1 (k:=6) hb rfl
 have c7:=Y1 (k:=7) hb rfl
 have c8:=Y1 (k:=8) hb rfl
 have c9:=Y1 (k:=9) hb rfl
 have c10:=Y1 (k:=10) hb rfl
 have c11:=Y1 (k:=11) hb rfl
 have c12:=Y1 (k:=12) hb rfl
 have c13:=Y1 (k:=13) hb rfl
 have c14:=Y1 (k:=14) hb rfl
 have c15:=Y1 (k:=15) hb rfl
 have c16:=Y1 (k:=16) hb rfl
 have c17:=Y1 (k:=17) hb rfl
 have c18:=Y1 (k:=18) hb rfl
 have c19:=Y1 (k:=19) hb rfl
 have c20:=Y1 (k:=20) hb rfl
 have c21:=Y1 (k:=21) hb rfl
 have c22:=Y1 (k:=22) hb rfl
 have c23:=Y1 (k:=23) hb rfl
 have c24:=Y1 (k:=24) hb rfl
 have c25:=Y1 (k:=25) hb rfl
 have c26:=Y1 (k:=26) hb rfl
 have c27:=Y1 (k:=27) hb rfl
 have c28:=Y1 (k:=28) hb rfl
 have c29:=Y1 (k:=29) hb rfl
 gi_wp2
 gi_loopw [12] (fun p wr=>(p= .int .i64 0∧J [] wr)∨(p= .int .i64 1∧J [u0] wr)∨(p= .int .i64 2∧J [u0,u1] wr)∨(p= .int .i64 3∧J [u0,u1,u2] wr)) (fun p wr=>3-(intOf p).toNat)
 case atStart=>
  exact .inl ⟨rfl,h0⟩
 case round=>
  rcases hrel with⟨rfl,hJs⟩|⟨rfl,hJs⟩|⟨rfl,hJs⟩|⟨rfl,hJs⟩
  · obtain⟨fn,tmps,assign,body,hy,hR⟩:=hY [] u0 (wr.alloc (.cells #[.bool x0,.string x1,.bool x2,.string x3,.bool x4,.string x5,.bool x6,.string x7,.bool x8,.string x9] 39)) (hJ _ wr _ none hJs (World.grownBy_alloc wr _ none) (fun r e=>by cases e)) (by simp)
    rw[e0]at hy
    obtain⟨i0,i1,i2⟩:=z9t (.bool x0) (.string x1) (.bool x2) (.string x3) (.bool x4) (.string x5) (.bool x6) (.string x7) (.bool x8) (.string x9) (.bool y0) (.string y1) (.bool y2) (.string y3) (.bool y4) (.string y5) (.bool y6) (.string y7) (.bool y8) (.string y9) (.bool z0) (.string z1) (.bool z2) (.string z3) (.bool z4) (.string z5) (.bool z6) (.string z7) (.bool z8) (.string z9) wr
    gi_wp2_with (rw[i0])
    refine hR.mono ?_
    rintro e W3 (⟨rfl,hJ3,hk3⟩|⟨rfl,hJx3⟩)
    · gi_wp2
      go_roundw
      case rel=>exact .inr (.inl ⟨rfl,hJ3⟩)
      case measure=>simp[intOf]
    · gi_wp2
      refine bodyPost_ret (results_none rfl _ _ _) rfl ?_
      exact⟨⟨_,rfl⟩,.inr ⟨_,by simp,hJx3⟩⟩
  · obtain⟨fn,tmps,assign,body,hy,hR⟩:=hY [u0] u1 (wr.alloc (.cells #[.bool y0,.string y1,.bool y2,.string y3,.bool y4,.string y5,.bool y6,.string y7,.bool y8,.string y9] 39)) (hJ _ wr _ none hJs (World.grownBy_alloc wr _ none) (fun r e=>by cases e)) (by simp)
    rw[e1]at hy
    obtain⟨i0,i1,i2⟩:=z9t (.bool x0) (.string x1) (.bool x2) (.string x3) (.bool x4) (.string x5) (.bool x6) (.string x7) (.bool x8) (.string x9) (.bool y0) (.string y1) (.bool y2) (.string y3) (.bool y4) (.string y5) (.bool y6) (.string y7) (.bool y8) (.string y9) (.bool z0) (.string z1) (.bool z2) (.string z3) (.bool z4) (.string z5) (.bool z6) (.string z7) (.bool z8) (.string z9) wr
    gi_wp2_with (rw[i1])
    refine hR.mono ?_
    rintro e W3 (⟨rfl,hJ3,hk3⟩|⟨rfl,hJx3⟩)
    · gi_wp2
      go_roundw
      case rel=>exact .inr (.inr (.inl ⟨rfl,hJ3⟩))
      case measure=>simp[intOf]
    · gi_wp2
      refine bodyPost_ret (results_none rfl _ _ _) rfl ?_
      exact⟨⟨_,rfl⟩,.inr ⟨_,by simp,hJx3⟩⟩
  · obtain⟨fn,tmps,assign,body,hy,hR⟩:=hY [u0,u1] u2 (wr.alloc (.cells #[.bool z0,.string z1,.bool z2,.string z3,.bool z4,.string z5,.bool z6,.string z7,.bool z8,.string z9] 39)) (hJ _ wr _ none hJs (World.grownBy_alloc wr _ none) (fun r e=>by cases e)) (by simp)
    rw[e2]at hy
    obtain⟨i0,i1,i2⟩:=z9t (.bool x0) (.string x1) (.bool x2) (.string x3) (.bool x4) (.string x5) (.bool x6) (.string x7) (.bool x8) (.string x9) (.bool y0) (.string y1) (.bool y2) (.string y3) (.bool y4) (.string y5) (.bool y6) (.string y7) (.bool y8) (.string y9) (.bool z0) (.string z1) (.bool z2) (.string z3) (.bool z4) (.string z5) (.bool z6) (.string z7) (.bool z8) (.string z9) wr
    gi_wp2_with (rw[i2])
    refine hR.mono ?_
    rintro e W3 (⟨rfl,hJ3,hk3⟩|⟨rfl,hJx3⟩)
    · gi_wp2
      go_roundw
      case rel=>exact .inr (.inr (.inr ⟨rfl,hJ3⟩))
      case measure=>simp[intOf]
    · gi_wp2
      refine bodyPost_ret (results_none rfl _ _ _) rfl ?_
      exact⟨⟨_,rfl⟩,.inr ⟨_,by simp,hJx3⟩⟩
  · gi_wp2
    go_end0
    exact⟨⟨_,rfl⟩,.inl ⟨_,rfl,hJs⟩⟩
end Go.Fw
