/- A part of the proof that the law returns true for every input: an executor for the model's code, and what functions of the program compute. -/
import Derived.Test.YtcafjpldfnegiaaGreatDoorB11
import Derived.Test.YtcafjpldfnegiaaGreatDoorB15
import Derived.Test.YtcafjpldfnegiaaGreatDoorB37
import Derived.Test.YtcafjpldfnegiaaGreatDoorB38
import Derived.Test.YtcafjpldfnegiaaGreatDoorB39
import Derived.KernelRfl
open Go IntKind
namespace Go.Fw
set_option maxRecDepth 100000
theorem zmA(x y:K)(h1:(z8g x)=true)(h2:(z8g y)=false)(s4_0:x.sz≤1000000)(s8_0:y.sz≤1000000)(s45_0:Sml x.c0.natAbs)(s45_1:Sml y.d.natAbs)(s45_2:Sml (x.c0.natAbs*y.d.natAbs))(s52_0:Sml y.c0.natAbs)(s52_1:Sml x.d.natAbs)(s52_2:Sml (y.c0.natAbs*x.d.natAbs))(s53_0:Sml (x.c0*y.d).natAbs)(s53_1:Sml (y.c0*x.d).natAbs)(s53_2:Sml ((x.c0*y.d).natAbs+(y.c0*x.d).natAbs))(s70_0:Sml x.c1.natAbs)(s70_1:Sml y.d.natAbs)(s70_2:Sml (x.c1.natAbs*y.d.natAbs))(s77_0:Sml y.c1.natAbs)(s77_1:Sml x.d.natAbs)(s77_2:Sml (y.c1.natAbs*x.d.natAbs))(s78_0:Sml (x.c1*y.d).natAbs)(s78_1:Sml (y.c1*x.d).natAbs)(s78_2:Sml ((x.c1*y.d).natAbs+(y.c1*x.d).natAbs))(s95_0:Sml x.c2.natAbs)(s95_1:Sml y.d.natAbs)(s95_2:Sml (x.c2.natAbs*y.d.natAbs))(s102_0:Sml y.c2.natAbs)(s102_1:Sml x.d.natAbs)(s102_2:Sml (y.c2.natAbs*x.d.natAbs))(s103_0:Sml (x.c2*y.d).natAbs)(s103_1:Sml (y.c2*x.d).natAbs)(s103_2:Sml ((x.c2*y.d).natAbs+(y.c2*x.d).natAbs))(s120_0:Sml x.c3.natAbs)(s120_1:Sml y.d.natAbs)(s120_2:Sml (x.c3.natAbs*y.d.natAbs))(s127_0:Sml y.c3.natAbs)(s127_1:Sml x.d.natAbs)(s127_2:Sml (y.c3.natAbs*x.d.natAbs))(s128_0:Sml (x.c3*y.d).natAbs)(s128_1:Sml (y.c3*x.d).natAbs)(s128_2:Sml ((x.c3*y.d).natAbs+(y.c3*x.d).natAbs))(s143_0:Sml x.d.natAbs)(s143_1:Sml y.d.natAbs)(s143_2:Sml (x.d.natAbs*y.d.natAbs))(s144_0:x.d*y.d≠0)(s144_1:SmlZ (x.c0*y.d+y.c0*x.d))(s144_2:SmlZ (x.c1*y.d+y.c1*x.d))(s144_3:SmlZ (x.c2*y.d+y.c2*x.d))(s144_4:SmlZ (x.c3*y.d+y.c3*x.d))(s144_5:SmlZ (x.d*y.d)):PCall P 37 [Z0 x,Z0 y] (Z0 (K.of (x.c0*y.d+y.c0*x.d) (x.c1*y.d+y.c1*x.d) (x.c2*y.d+y.c2*x.d) (x.c3*y.d+y.c3*x.d) (x.d*y.d))):=
 j3 (.r 4 (z0i (x) s4_0) (.r 8 (z0i (y) s8_0) (.r 13 (z4T (x)) (.c (lq 5 5) (.b 21 h1 (.r 23 (z4T (y)) (.c (lq 5 5) (.b 31 h2 (.c (bq 0 4) (.r 45 (Y3 (x.c0) (y.d) s45_0 s45_1 s45_2) (.c (bq 0 4) (.r 52 (Y3 (y.c0) (x.d) s52_0 s52_1 s52_2) (.r 53 (z0v (x.c0*y.d) (y.c0*x.d) s53_0 s53_1 s53_2) (.c (bq 0 4) (.c (lq 2 8) (.c (bq 1 4) (.r 70 (Y3 (x.c1) (y.d) s70_0 s70_1 s70_2) (.c (bq 1 4) (.r 77 (Y3 (y.c1) (x.d) s77_0 s77_1 s77_2) (.r 78 (z0v (x.c1*y.d) (y.c1*x.d) s78_0 s78_1 s78_2) (.c (bq 1 4) (.c (lq 4 8) (.c (bq 2 4) (.r 95 (Y3 (x.c2) (y.d) s95_0 s95_1 s95_2) (.c (bq 2 4) (.r 102 (Y3 (y.c2) (x.d) s102_0 s102_1 s102_2) (.r 103 (z0v (x.c2*y.d) (y.c2*x.d) s103_0 s103_1 s103_2) (.c (bq 2 4) (.c (lq 6 8) (.c (bq 3 4) (.r 120 (Y3 (x.c3) (y.d) s120_0 s120_1 s120_2) (.c (bq 3 4) (.r 127 (Y3 (y.c3) (x.d) s127_0 s127_1 s127_2) (.r 128 (z0v (x.c3*y.d) (y.c3*x.d) s128_0 s128_1 s128_2) (.c (bq 3 4) (.c (lq 8 8) (.r 143 (Y3 (x.d) (y.d) s143_0 s143_1 s143_2) (.r 144 (z8B (x.c0*y.d+y.c0*x.d) (x.c1*y.d+y.c1*x.d) (x.c2*y.d+y.c2*x.d) (x.c3*y.d+y.c3*x.d) (x.d*y.d) s144_0 s144_1 s144_2 s144_3 s144_4 s144_5) (.c (lq 10 10) .nil))))))))))))))))))))))))))))))))))))))) (by kernel_rfl)
theorem zm6(x y:K)(h1:(z8g x)=false)(s4_0:x.sz≤1000000)(s8_0:y.sz≤1000000)(s35_0:Sml x.c0.natAbs)(s35_1:Sml y.d.natAbs)(s35_2:Sml (x.c0.natAbs*y.d.natAbs))(s42_0:Sml y.c0.natAbs)(s42_1:Sml x.d.natAbs)(s42_2:Sml (y.c0.natAbs*x.d.natAbs))(s43_0:Sml (x.c0*y.d).natAbs)(s43_1:Sml (y.c0*x.d).natAbs)(s43_2:Sml ((x.c0*y.d).natAbs+(y.c0*x.d).natAbs))(s60_0:Sml x.c1.natAbs)(s60_1:Sml y.d.natAbs)(s60_2:Sml (x.c1.natAbs*y.d.natAbs))(s67_0:Sml y.c1.natAbs)(s67_1:Sml x.d.natAbs)(s67_2:Sml (y.c1.natAbs*x.d.natAbs))(s68_0:Sml (x.c1*y.d).natAbs)(s68_1:Sml (y.c1*x.d).natAbs)(s68_2:Sml ((x.c1*y.d).natAbs+(y.c1*x.d).natAbs))(s85_0:Sml x.c2.natAbs)(s85_1:Sml y.d.natAbs)(s85_2:Sml (x.c2.natAbs*y.d.natAbs))(s92_0:Sml y.c2.natAbs)(s92_1:Sml x.d.natAbs)(s92_2:Sml (y.c2.natAbs*x.d.natAbs))(s93_0:Sml (x.c2*y.d).natAbs)(s93_1:Sml (y.c2*x.d).natAbs)(s93_2:Sml ((x.c2*y.d).natAbs+(y.c2*x.d).natAbs))(s110_0:Sml x.c3.natAbs)(s110_1:Sml y.d.natAbs)(s110_2:Sml (x.c3.natAbs*y.d.natAbs))(s117_0:Sml y.c3.natAbs)(s117_1:Sml x.d.natAbs)(s117_2:Sml (y.c3.natAbs*x.d.natAbs))(s118_0:Sml (x.c3*y.d).natAbs)(s118_1:Sml (y.c3*x.d).natAbs)(s118_2:Sml ((x.c3*y.d).natAbs+(y.c3*x.d).natAbs))(s133_0:Sml x.d.natAbs)(s133_1:Sml y.d.natAbs)(s133_2:Sml (x.d.natAbs*y.d.natAbs))(s134_0:x.d*y.d≠0)(s134_1:SmlZ (x.c0*y.d+y.c0*x.d))(s134_2:SmlZ (x.c1*y.d+y.c1*x.d))(s134_3:SmlZ (x.c2*y.d+y.c2*x.d))(s134_4:SmlZ (x.c3*y.d+y.c3*x.d))(s134_5:SmlZ (x.d*y.d)):PCall P 37 [Z0 x,Z0 y] (Z0 (K.of (x.c0*y.d+y.c0*x.d) (x.c1*y.d+y.c1*x.d) (x.c2*y.d+y.c2*x.d) (x.c3*y.d+y.c3*x.d) (x.d*y.d))):=
 j3 (.r 4 (z0i (x) s4_0) (.r 8 (z0i (y) s8_0) (.r 13 (z4T (x)) (.c (lq 5 5) (.b 21 h1 (.c (bq 0 4) (.r 35 (Y3 (x.c0) (y.d) s35_0 s35_1 s35_2) (.c (bq 0 4) (.r 42 (Y3 (y.c0) (x.d) s42_0 s42_1 s42_2) (.r 43 (z0v (x.c0*y.d) (y.c0*x.d) s43_0 s43_1 s43_2) (.c (bq 0 4) (.c (lq 2 8) (.c (bq 1 4) (.r 60 (Y3 (x.c1) (y.d) s60_0 s60_1 s60_2) (.c (bq 1 4) (.r 67 (Y3 (y.c1) (x.d) s67_0 s67_1 s67_2) (.r 68 (z0v (x.c1*y.d) (y.c1*x.d) s68_0 s68_1 s68_2) (.c (bq 1 4) (.c (lq 4 8) (.c (bq 2 4) (.r 85 (Y3 (x.c2) (y.d) s85_0 s85_1 s85_2) (.c (bq 2 4) (.r 92 (Y3 (y.c2) (x.d) s92_0 s92_1 s92_2) (.r 93 (z0v (x.c2*y.d) (y.c2*x.d) s93_0 s93_1 s93_2) (.c (bq 2 4) (.c (lq 6 8) (.c (bq 3 4) (.r 110 (Y3 (x.c3) (y.d) s110_0 s110_1 s110_2) (.c (bq 3 4) (.r 117 (Y3 (y.c3) (x.d) s117_0 s117_1 s117_2) (.r 118 (z0v (x.c3*y.d) (y.c3*x.d) s118_0 s118_1 s118_2) (.c (bq 3 4) (.c (lq 8 8) (.r 133 (Y3 (x.d) (y.d) s133_0 s133_1 s133_2) (.r 134 (z8B (x.c0*y.d+y.c0*x.d) (x.c1*y.d+y.c1*x.d) (x.c2*y.d+y.c2*x.d) (x.c3*y.d+y.c3*x.d) (x.d*y.d) s134_0 s134_1 s134_2 s134_3 s134_4 s134_5) (.c (lq 10 10) .nil)))))))))))))))))))))))))))))))))))) (by kernel_rfl)
theorem zne(x:K)(s3_0:x.sz≤1000000):PCall P 41 [Z0 x] (.agg [.lit (.bool (decide (-x.c0<0))),.lit (.string (bytesOf (-x.c0).natAbs)),.lit (.bool (decide (-x.c1<0))),.lit (.string (bytesOf (-x.c1).natAbs)),.lit (.bool (decide (-x.c2<0))),.lit (.string (bytesOf (-x.c2).natAbs)),.lit (.bool (decide (-x.c3<0))),.lit (.string (bytesOf (-x.c3).natAbs)),.lit (.bool (decide (x.d<0))),.lit (.string (bytesOf x.d.natAbs))]):=
 j3 (.r 3 (z0i (x) s3_0) (.c (lq 10 10) (.c (bq 0 4) (.r 19 (z07 (x.c0)) (.c (bq 0 4) (.c (lq 2 10) (.c (bq 1 4) (.r 35 (z07 (x.c1)) (.c (bq 1 4) (.c (lq 4 10) (.c (bq 2 4) (.r 51 (z07 (x.c2)) (.c (bq 2 4) (.c (lq 6 10) (.c (bq 3 4) (.r 67 (z07 (x.c3)) (.c (bq 3 4) (.c (lq 8 10) (.c (lq 10 10) .nil))))))))))))))))))) (by kernel_rfl)
end Go.Fw
open Go
namespace Go.Fw
set_option maxRecDepth 100000
def Mil(a:Int):Prop:= ∃n,n≤1000000∧a.natAbs<256^n
theorem Mil.sml{a:Int}(h:Mil a):Sml a.natAbs:=by
 obtain⟨n,hn,h⟩:=h
 exact Sml.of_lt h (by omega)
theorem mul_lt_pow{a b n m:Nat}(ha:a<256^n)(hb:b<256^m):a*b<256^(n+m):=by
 rw[Nat.pow_add]
 exact Nat.mul_lt_mul'' ha hb
theorem z6J{a b n:Nat}(ha:a<256^n)(hb:b<256^n):a+b<256^(n+1):=by
 rw[Nat.pow_succ];omega
theorem zf6{a n m:Nat}(ha:a<256^n)(h:n≤m):a<256^m:=Nat.lt_of_lt_of_le ha (Nat.pow_le_pow_right (by decide) h)
def By(n:Nat)(a:Int):Prop:=a.natAbs<256^n
theorem By.sml{n:Nat}{a:Int}(h:By n a)(hn:n<1073741824):Sml a.natAbs:=Sml.of_lt h hn
theorem By.mul{n m:Nat}{a b:Int}(ha:By n a)(hb:By m b):By (n+m) (a*b):=by
 unfold By;rw[Int.natAbs_mul];exact mul_lt_pow ha hb
theorem By.mono{n m:Nat}{a:Int}(h:By n a)(hm:n≤m):By m a:=zf6 h hm
theorem By.add{n:Nat}{a b:Int}(ha:By n a)(hb:By n b):By (n+1) (a+b):=Nat.lt_of_le_of_lt (Int.natAbs_add_le ..) (z6J ha hb)
theorem By.neg{n:Nat}{a:Int}(h:By n a):By n (-a):=by unfold By;rw[Int.natAbs_neg];exact h
theorem By.sm2{n m:Nat}{a b:Int}(ha:By n a)(hb:By m b)(hn:n+m<1073741824):Sml (a.natAbs*b.natAbs):=Sml.of_lt (mul_lt_pow ha hb) hn
theorem By.sma{n:Nat}{a b:Int}(ha:By n a)(hb:By n b)(hn:n+1<1073741824):Sml (a.natAbs+b.natAbs):=Sml.of_lt (z6J ha hb) hn
theorem By.of_sz{x:K}{n:Nat}(h:x.sz≤n):By n x.c0∧By n x.c1∧By n x.c2∧By n x.c3∧By n x.d:=K.sz_le.1 h
theorem z6n(x y:K)(hx:x.sz≤1000000)(hy:y.sz≤1000000):PCall P 37 [Z0 x,Z0 y] (Z0 (x+y)):=by
 have hxs:=hx
 have hys:=hy
 obtain⟨x0,x1,x2,x3,xd⟩:=By.of_sz hx
 obtain⟨y0,y1,y2,y3,yd⟩:=By.of_sz hy
 have L:(1000000:Nat)<1073741824:=by decide
 have L2:(1000000:Nat)+1000000<1073741824:=by decide
 have L3:(1000000:Nat)+1000000+1<1073741824:=by decide
 have key: ∀{a b:Int},By 1000000 a→By 1000000 b→Sml (a*y.d).natAbs∧Sml (b*x.d).natAbs∧Sml ((a*y.d).natAbs+(b*x.d).natAbs)∧SmlZ (a*y.d+b*x.d):=fun ha hb=>
  ⟨(ha.mul yd).sml L2,(hb.mul xd).sml L2,(ha.mul yd).sma (hb.mul xd) L3,((ha.mul yd).add (hb.mul xd)).sml L3⟩
 obtain⟨a1,a2,a3,a4⟩:=key x0 y0
 obtain⟨b1,b2,b3,b4⟩:=key x1 y1
 obtain⟨c1,c2,c3,c4⟩:=key x2 y2
 obtain⟨d1,d2,d3,d4⟩:=key x3 y3
 have dn:x.d*y.d≠0:=Int.mul_ne_zero x.d_ne y.d_ne
 cases h1:z8g x
 · exact zm6 x y h1 hxs hys (x0.sml L) (yd.sml L) (x0.sm2 yd L2) (y0.sml L) (xd.sml L) (y0.sm2 xd L2) a1 a2 a3 (x1.sml L) (yd.sml L) (x1.sm2 yd L2) (y1.sml L) (xd.sml L) (y1.sm2 xd L2) b1 b2 b3
     (x2.sml L) (yd.sml L) (x2.sm2 yd L2) (y2.sml L) (xd.sml L) (y2.sm2 xd L2) c1 c2 c3 (x3.sml L) (yd.sml L) (x3.sm2 yd L2) (y3.sml L) (xd.sml L) (y3.sm2 xd L2) d1 d2 d3 (xd.sml L) (yd.sml L) (xd.sm2 yd L2) dn a4 b4 c4 d4 ((xd.mul yd).sml L2)
 · cases h2:z8g y
   · exact zmA x y h1 h2 hxs hys (x0.sml L) (yd.sml L) (x0.sm2 yd L2) (y0.sml L) (xd.sml L) (y0.sm2 xd L2) a1 a2 a3 (x1.sml L) (yd.sml L) (x1.sm2 yd L2) (y1.sml L) (xd.sml L) (y1.sm2 xd L2) b1 b2 b3
       (x2.sml L) (yd.sml L) (x2.sm2 yd L2) (y2.sml L) (xd.sml L) (y2.sm2 xd L2) c1 c2 c3 (x3.sml L) (yd.sml L) (x3.sm2 yd L2) (y3.sml L) (xd.sml L) (y3.sm2 xd L2) d1 d2 d3 (xd.sml L) (yd.sml L) (xd.sm2 yd L2) dn a4 b4 c4 d4 ((xd.mul yd).sml L2)
   · exact zlq x y (z41 h1) (z41 h2)
theorem zgE(x:K)(hx:x.sz≤1000000):PCall P 41 [Z0 x] (Z0 (-x)):=zne x hx
end Go.Fw
open Go IntKind
namespace Go.Fw
set_option maxRecDepth 100000
theorem zoz(x y:K)(s5_0:y.sz≤1000000)(s6_0:x.sz≤1000000)(s6_1:(-y).sz≤1000000):PCall P 39 [Z0 x,Z0 y] (Z0 (x+ -y)):=
 j3 (.r 5 (zgE (y) s5_0) (.r 6 (z6n (x) (-y) s6_0 s6_1) (.c (lq 10 10) .nil))) (by kernel_rfl)
end Go.Fw
open Go
namespace Go.Fw
set_option maxRecDepth 100000
def zkK(X Y C:Nat→Int)(i:Nat):St:=⟨J8 66 [(2,.ptr 0 0),(3,.ptr 1 0),(4,.ptr 2 0),(5,.ptr 3 0),(6,.cv (j6 (i:Int)))],[some (cl4 X),some (cl4 Y),some (cl4 (fun _=>0)),some (cl4 C)]⟩
def ze6(X Y C:Nat→Int)(i j:Nat):St:=⟨J8 66 [(2,.ptr 0 0),(3,.ptr 1 0),(4,.ptr 2 0),(5,.ptr 3 0),(6,.cv (j6 (i:Int))),(7,.cv (j6 (j:Int)))],[some (cl4 X),some (cl4 Y),some (cl4 (fun _=>0)),some (cl4 C)]⟩
def tS(i j:Nat):Nat:=[31,34,34,37].getD (i&&&j) 0
section
variable(X Y C:Nat→Int)
theorem zpT : ∀ i j, i < 4 → j < 4 →
    (z3L P 130 (loopHead P 130 1) (ze6 X Y C i j) [(7,.r (j6 (X i).sign)),(9,.b true),(20,.stop)] false 100000).pick [2,3,4,5,6,7] [0,1,2,3]=
     some (loopHead P 130 1,ze6 X Y C i (j+1),[(0:Int)≤(i:Int)∧(i:Int)<4,PCall P 183 [J7 (X i)] (j6 (X i).sign),((X i).sign==(0:Int))=true,CvL (cl4 X),CvL (cl4 Y),CvL (cl4 (fun _=>0)),CvL (cl4 C)]):=by
 intro i j hi hj
 have hi':i=0∨i=1∨i=2∨i=3:=by omega
 have hj':j=0∨j=1∨j=2∨j=3:=by omega
 rcases hi' with rfl|rfl|rfl|rfl<;>rcases hj' with rfl|rfl|rfl|rfl<;>(show _=_;kernel_rfl)
theorem zpQ : ∀ i j, i < 4 → j < 4 →
    (z3L P 130 (loopHead P 130 1) (ze6 X Y C i j) [(7,.r (j6 (X i).sign)),(9,.b false),(13,.r (j6 (Y j).sign)),(16,.b true),(20,.stop)] false 100000).pick [2,3,4,5,6,7] [0,1,2,3]=
     some (loopHead P 130 1,ze6 X Y C i (j+1),[(0:Int)≤(i:Int)∧(i:Int)<4,PCall P 183 [J7 (X i)] (j6 (X i).sign),((X i).sign==(0:Int))=false,(0:Int)≤(j:Int)∧(j:Int)<4,PCall P 183 [J7 (Y j)] (j6 (Y j).sign),((Y j).sign==(0:Int))=true,CvL (cl4 X),CvL (cl4 Y),CvL (cl4 (fun _=>0)),CvL (cl4 C)]):=by
 intro i j hi hj
 have hi':i=0∨i=1∨i=2∨i=3:=by omega
 have hj':j=0∨j=1∨j=2∨j=3:=by omega
 rcases hi' with rfl|rfl|rfl|rfl<;>rcases hj' with rfl|rfl|rfl|rfl<;>(show _=_;kernel_rfl)
theorem zpO : ∀ i j, i < 4 → j < 4 →
    (z3L P 130 (loopHead P 130 1) (ze6 X Y C i j) [(7,.r (j6 (X i).sign)),(9,.b false),(13,.r (j6 (Y j).sign)),(16,.b false),(tS i j,.r (J7 (sq4 i j))),(tS i j+7,.r (J7 (X i*Y j))),(tS i j+8,.r (J7 (sq4 i j*(X i*Y j)))),(tS i j+20,.r (J7 (C (i^^^j)+sq4 i j*(X i*Y j)))),(tS i j+26,.stop)] false 100000).pick [2,3,4,5,6,7] [0,1,2,3]=
     some (loopHead P 130 1,ze6 X Y (zjk C (i^^^j) (C (i^^^j)+sq4 i j*(X i*Y j))) i (j+1),[(0:Int)≤(i:Int)∧(i:Int)<4,PCall P 183 [J7 (X i)] (j6 (X i).sign),((X i).sign==(0:Int))=false,(0:Int)≤(j:Int)∧(j:Int)<4,PCall P 183 [J7 (Y j)] (j6 (Y j).sign),((Y j).sign==(0:Int))=false,
      PCall P 131 [j6 (sq4 i j)] (J7 (sq4 i j)),(0:Int)≤(i:Int)∧(i:Int)<4,(0:Int)≤(j:Int)∧(j:Int)<4,PCall P 128 [J7 (X i),J7 (Y j)] (J7 (X i*Y j)),PCall P 128 [J7 (sq4 i j),J7 (X i*Y j)] (J7 (sq4 i j*(X i*Y j))),2≤2,(0:Int)≤((i^^^j:Nat):Int)∧((i^^^j:Nat):Int)<4,
      PCall P 127 [J7 (C (i^^^j)),J7 (sq4 i j*(X i*Y j))] (J7 (C (i^^^j)+sq4 i j*(X i*Y j))),(0:Int)≤((i^^^j:Nat):Int)∧((i^^^j:Nat):Int)<4,(i^^^j)*2+2≤8,
      CvL (cl4 X),CvL (cl4 Y),CvL (cl4 (fun _=>0)),CvL (cl4 (zjk C (i^^^j) (C (i^^^j)+sq4 i j*(X i*Y j))))]):=by
 intro i j hi hj
 have hi':i=0∨i=1∨i=2∨i=3:=by omega
 have hj':j=0∨j=1∨j=2∨j=3:=by omega
 rcases hi' with rfl|rfl|rfl|rfl<;>rcases hj' with rfl|rfl|rfl|rfl<;>(show _=_;kernel_rfl)
theorem zpV: ∀i,i<4→(z3L P 130 (loopHead P 130 0) (zkK X Y C i) [(5,.stop)] false 100000).pick [2,3,4,5,6,7] [0,1,2,3]=some (loopHead P 130 1,ze6 X Y C i 0,[CvL (cl4 X),CvL (cl4 Y),CvL (cl4 (fun _=>0)),CvL (cl4 C)]):=by
 intro i hi
 have hi':i=0∨i=1∨i=2∨i=3:=by omega
 rcases hi' with rfl|rfl|rfl|rfl<;>(show _=_;kernel_rfl)
theorem zq7: ∀i,i<4→(z3L P 130 (loopHead P 130 1) (ze6 X Y C i 4) [(7,.stop)] false 100000).pick [2,3,4,5,6] [0,1,2,3]=some (loopHead P 130 0,zkK X Y C (i+1),[CvL (cl4 X),CvL (cl4 Y),CvL (cl4 (fun _=>0)),CvL (cl4 C)]):=by
 intro i hi
 have hi':i=0∨i=1∨i=2∨i=3:=by omega
 rcases hi' with rfl|rfl|rfl|rfl<;>(show _=_;kernel_rfl)
theorem zpD:z3L P 130 (loopHead P 130 0) (zkK X Y C 4) [] false 100000= .ret (c4C (C 0) (C 1) (C 2) (C 3)) [8≤8]:=by
 show _=_
 kernel_rfl
theorem zpW:(zbz P 130 [c4C (X 0) (X 1) (X 2) (X 3),c4C (Y 0) (Y 1) (Y 2) (Y 3)] [(5,.stop)] false 100000).pick [2,3,4,5,6] [0,1,2,3]=some (loopHead P 130 0,zkK X Y (fun _=>0) 0,[CvL (cl4 X),CvL (cl4 Y),CvL (cl4 (fun _=>0)),CvL (cl4 (fun _=>0))]):=by
 show _=_
 kernel_rfl
end
end Go.Fw
open Go
namespace Go.Fw
set_option maxRecDepth 100000
theorem z1p(z:Int):(z.sign==(0:Int))=decide (z=0):=by
 rw[Bool.eq_iff_iff,beq_iff_eq,decide_eq_true_eq]
 exact Int.sign_eq_zero_iff_zero
section
variable{X Y:Nat→Int}{p q:Nat}(hp:p+q+2<1073741824)(hX: ∀i,(X i).natAbs<256^p)(hY: ∀i,(Y i).natAbs<256^q)
include hp hX hY
theorem z5n {R : Goal} (hn : J1 R.n [0, 1, 2, 3] = true) (i j t : Nat) (hi : i < 4) (hj : j < 4) (ht : t ≤ 20) (C : Nat → Int) (hC : ∀ k, (C k).natAbs ≤ t * 6 * 256 ^ (p + q))
    (hR:Ok P 130 (loopHead P 130 1) (ze6 X Y (z21 X Y i j C) i (j+1)) R):Ok P 130 (loopHead P 130 1) (ze6 X Y C i j) R:=by
 have hii:(0:Int)≤(i:Int)∧(i:Int)<4:=by omega
 have hjj:(0:Int)≤(j:Int)∧(j:Int)<4:=by omega
 by_cases ha:X i=0
 · rw[z38 C (by rw[ha,Int.zero_mul])]at hR
   exact okS (zpT X Y C i j hi hj) rfl (.cons hii (.cons (Z3 _) (.cons (by rw[z1p];exact decide_eq_true ha) (.cons (z08 _) (.cons (z08 _) (.cons (z08 _) (.cons (z08 _) .nil))))))) hn hR
 · by_cases hb:Y j=0
   · rw[z38 C (by rw[hb,Int.mul_zero])]at hR
     exact okS (zpQ X Y C i j hi hj) rfl (.cons hii (.cons (Z3 _) (.cons (by rw[z1p];exact decide_eq_false ha) (.cons hjj (.cons (Z3 _) (.cons (by rw[z1p];exact decide_eq_true hb) (.cons (z08 _) (.cons (z08 _) (.cons (z08 _) (.cons (z08 _) .nil)))))))))) hn hR
   · have hm:=z3B hX hY i j
     obtain⟨s1,s2⟩:=zcG i hi j hj
     have hw:256^(p+q+1)=256*256^(p+q):=by rw[Nat.pow_succ,Nat.mul_comm]
     have hf:(sq4 i j*(X i*Y j)).natAbs<6*256^(p+q)+1:=by
      rw[Int.natAbs_mul]
      have:(sq4 i j).natAbs≤6:=by omega
      have:=Nat.mul_le_mul this (Nat.le_of_lt hm)
      omega
     have smX:SmlZ (X i):=Sml.of_lt (hX i) (by omega)
     have smY:SmlZ (Y j):=Sml.of_lt (hY j) (by omega)
     have smM:Sml ((X i).natAbs*(Y j).natAbs):=by rw[←Int.natAbs_mul];exact Sml.of_lt hm (by omega)
     have smS:SmlZ (sq4 i j):=z1W (by omega)
     have smM':SmlZ (X i*Y j):=Sml.of_lt hm (by omega)
     have hCk:=hC (i^^^j)
     have ht6:t*6*256^(p+q)≤120*256^(p+q):=Nat.mul_le_mul_right _ (by omega)
     have hpp:0<256^(p+q):=Nat.pow_pos (by decide)
     have smF:SmlZ (sq4 i j*(X i*Y j)):=Sml.of_lt (k:=p+q+1) (by omega) (by omega)
     have smF2:Sml ((sq4 i j).natAbs*(X i*Y j).natAbs):=by rw[←Int.natAbs_mul];exact smF
     have smC:SmlZ (C (i^^^j)):=Sml.of_lt (k:=p+q+1) (by omega) (by omega)
     have smA:Sml ((C (i^^^j)).natAbs+(sq4 i j*(X i*Y j)).natAbs):=Sml.of_lt (k:=p+q+1) (by omega) (by omega)
     have hx4:i^^^j<4:=Nat.xor_lt_two_pow (n:=2) (by simpa using hi) (by simpa using hj)
     exact okS (zpO X Y C i j hi hj) rfl (.cons hii (.cons (Z3 _) (.cons (by rw[z1p];exact decide_eq_false ha) (.cons hjj (.cons (Z3 _) (.cons (by rw[z1p];exact decide_eq_false hb) (.cons (X5 _ (by omega)) (.cons hii (.cons hjj
      (.cons (Y3 _ _ smX smY smM) (.cons (Y3 _ _ smS smM' smF2) (.cons (Nat.le_refl _) (.cons (by omega) (.cons (z0v _ _ smC smF smA) (.cons (by omega) (.cons (by omega) (.cons (z08 _) (.cons (z08 _) (.cons (z08 _) (.cons (z08 _) .nil)))))))))))))))))))) hn hR
theorem z3T {R : Goal} (hn : J1 R.n [0, 1, 2, 3] = true) (i t : Nat) (hi : i < 4) (ht : t ≤ 16) (C : Nat → Int) (hC : ∀ k, (C k).natAbs ≤ t * 6 * 256 ^ (p + q))
    (hR:Ok P 130 (loopHead P 130 0) (zkK X Y (z21 X Y i 3 (z21 X Y i 2 (z21 X Y i 1 (z21 X Y i 0 C)))) (i+1)) R):Ok P 130 (loopHead P 130 0) (zkK X Y C i) R:=by
 have b0:=z0W hX hY i 0 t hi (by decide) C hC
 have b1:=z0W hX hY i 1 (t+1) hi (by decide) _ b0
 have b2:=z0W hX hY i 2 (t+2) hi (by decide) _ b1
 have cv: ∀C:Nat→Int,Ps [CvL (cl4 X),CvL (cl4 Y),CvL (cl4 (fun _=>0)),CvL (cl4 C)]:=fun C=> .cons (z08 _) (.cons (z08 _) (.cons (z08 _) (.cons (z08 _) .nil)))
 refine okS (zpV X Y C i hi) rfl (cv _) hn ?_
 refine z5n hp hX hY hn i 0 t hi (by decide) (by omega) C hC ?_
 refine z5n hp hX hY hn i 1 (t+1) hi (by decide) (by omega) _ b0 ?_
 refine z5n hp hX hY hn i 2 (t+2) hi (by decide) (by omega) _ b1 ?_
 refine z5n hp hX hY hn i 3 (t+3) hi (by decide) (by omega) _ b2 ?_
 exact okS (zq7 X Y _ i hi) rfl (cv _) hn hR
theorem zez : PCall P 130 [c4C (X 0) (X 1) (X 2) (X 3), c4C (Y 0) (Y 1) (Y 2) (Y 3)]
    (c4C (X 0*Y 0+2*X 1*Y 1+3*X 2*Y 2+6*X 3*Y 3) (X 0*Y 1+X 1*Y 0+3*X 2*Y 3+3*X 3*Y 2) (X 0*Y 2+X 2*Y 0+2*X 1*Y 3+2*X 3*Y 1) (X 0*Y 3+X 3*Y 0+X 1*Y 2+X 2*Y 1)):=by
 have c0: ∀k:Nat,((fun _=>0:Nat→Int) k).natAbs≤0*6*256^(p+q):=by intro k;simp
 have c1:=z2r hX hY 0 0 (by decide) _ c0
 have c2:=z2r hX hY 1 4 (by decide) _ c1
 have c3:=z2r hX hY 2 8 (by decide) _ c2
 refine U4 (z8T (zpW X Y) rfl (.cons (z08 _) (.cons (z08 _) (.cons (z08 _) (.cons (z08 _) .nil)))) ?_)
 refine z3T hp hX hY rfl 0 0 (by decide) (by decide) _ c0 ?_
 refine z3T hp hX hY rfl 1 4 (by decide) (by decide) _ c1 ?_
 refine z3T hp hX hY rfl 2 8 (by decide) (by decide) _ c2 ?_
 refine z3T hp hX hY rfl 3 12 (by decide) (by decide) _ c3 ?_
 generalize hC:z21 X Y 3 3 _=C at*
 have e0:C 0=X 0*Y 0+2*X 1*Y 1+3*X 2*Y 2+6*X 3*Y 3:=by
  have:C 0=0+1*(X 0*Y 0)+2*(X 1*Y 1)+3*(X 2*Y 2)+6*(X 3*Y 3):=by rw[←hC];rfl
  rw[this];grind
 have e1:C 1=X 0*Y 1+X 1*Y 0+3*X 2*Y 3+3*X 3*Y 2:=by
  have:C 1=0+1*(X 0*Y 1)+1*(X 1*Y 0)+3*(X 2*Y 3)+3*(X 3*Y 2):=by rw[←hC];rfl
  rw[this];grind
 have e2:C 2=X 0*Y 2+X 2*Y 0+2*X 1*Y 3+2*X 3*Y 1:=by
  have:C 2=0+1*(X 0*Y 2)+2*(X 1*Y 3)+1*(X 2*Y 0)+2*(X 3*Y 1):=by rw[←hC];rfl
  rw[this];grind
 have e3:C 3=X 0*Y 3+X 3*Y 0+X 1*Y 2+X 2*Y 1:=by
  have:C 3=0+1*(X 0*Y 3)+1*(X 1*Y 2)+1*(X 2*Y 1)+1*(X 3*Y 0):=by rw[←hC];rfl
  rw[this];grind
 refine okR (zpD X Y C) (.cons (Nat.le_refl _) .nil) ?_
 rw[←e0,←e1,←e2,←e3]
 rfl
end
end Go.Fw
open Go
namespace Go.Fw
set_option maxRecDepth 100000
def f4(a b c d:Int):Nat→Int
 |0=>a
 |1=>b
 |2=>c
 |_=>d
def By4(n:Nat)(a b c d:Int):Prop:=By n a∧By n b∧By n c∧By n d
theorem By4.f{n:Nat}{a b c d:Int}(h:By4 n a b c d)(i:Nat):(f4 a b c d i).natAbs<256^n:=by
 obtain⟨h0,h1,h2,h3⟩:=h
 match i with
 |0=>exact h0
 |1=>exact h1
 |2=>exact h2
 |n+3=>exact h3
theorem z3Z (a0 a1 a2 a3 b0 b1 b2 b3 : Int) (hp : ∃ n, n ≤ 500000000 ∧ By4 n a0 a1 a2 a3 ∧ By4 n b0 b1 b2 b3) : PCall P 130 [c4C a0 a1 a2 a3, c4C b0 b1 b2 b3]
    (c4C (a0*b0+2*a1*b1+3*a2*b2+6*a3*b3) (a0*b1+a1*b0+3*a2*b3+3*a3*b2) (a0*b2+a2*b0+2*a1*b3+2*a3*b1) (a0*b3+a3*b0+a1*b2+a2*b1)):=by
 obtain⟨n,hn,ha,hb⟩:=hp
 exact zez (X:=f4 a0 a1 a2 a3) (Y:=f4 b0 b1 b2 b3) (p:=n) (q:=n) (by omega) ha.f hb.f
end Go.Fw
open Go IntKind
namespace Go.Fw
set_option maxRecDepth 100000
theorem zmO(x y:K)(g1:z8g x=false)(s4_0:x.sz≤1000000)(s8_0:y.sz≤1000000)(s26_0: ∃n,n≤500000000∧By4 n x.c0 x.c1 x.c2 x.c3∧By4 n y.c0 y.c1 y.c2 y.c3)(s31_0:Sml x.d.natAbs)(s31_1:Sml y.d.natAbs)(s31_2:Sml (x.d.natAbs*y.d.natAbs))(s32_0:x.d*y.d≠0)(s32_1:SmlZ (x.c0*y.c0+2*x.c1*y.c1+3*x.c2*y.c2+6*x.c3*y.c3))(s32_2:SmlZ (x.c0*y.c1+x.c1*y.c0+3*x.c2*y.c3+3*x.c3*y.c2))(s32_3:SmlZ (x.c0*y.c2+x.c2*y.c0+2*x.c1*y.c3+2*x.c3*y.c1))(s32_4:SmlZ (x.c0*y.c3+x.c3*y.c0+x.c1*y.c2+x.c2*y.c1))(s32_5:SmlZ (x.d*y.d)):PCall P 38 [Z0 x,Z0 y] (Z0 (K.of (x.c0*y.c0+2*x.c1*y.c1+3*x.c2*y.c2+6*x.c3*y.c3) (x.c0*y.c1+x.c1*y.c0+3*x.c2*y.c3+3*x.c3*y.c2) (x.c0*y.c2+x.c2*y.c0+2*x.c1*y.c3+2*x.c3*y.c1) (x.c0*y.c3+x.c3*y.c0+x.c1*y.c2+x.c2*y.c1) (x.d*y.d))):=
 j3 (.r 4 (z0i (x) s4_0) (.r 8 (z0i (y) s8_0) (.r 13 (z4T (x)) (.c (lq 5 5) (.b 21 g1 (.r 26 (z3Z (x.c0) (x.c1) (x.c2) (x.c3) (y.c0) (y.c1) (y.c2) (y.c3) s26_0) (.r 31 (Y3 (x.d) (y.d) s31_0 s31_1 s31_2) (.r 32 (z8B (x.c0*y.c0+2*x.c1*y.c1+3*x.c2*y.c2+6*x.c3*y.c3) (x.c0*y.c1+x.c1*y.c0+3*x.c2*y.c3+3*x.c3*y.c2) (x.c0*y.c2+x.c2*y.c0+2*x.c1*y.c3+2*x.c3*y.c1) (x.c0*y.c3+x.c3*y.c0+x.c1*y.c2+x.c2*y.c1) (x.d*y.d) s32_0 s32_1 s32_2 s32_3 s32_4 s32_5) (.c (lq 10 10) .nil))))))))) (by kernel_rfl)
theorem zmr(x y:K)(g1:z8g x=true)(g2:z8g y=false)(s4_0:x.sz≤1000000)(s8_0:y.sz≤1000000)(s36_0: ∃n,n≤500000000∧By4 n x.c0 x.c1 x.c2 x.c3∧By4 n y.c0 y.c1 y.c2 y.c3)(s41_0:Sml x.d.natAbs)(s41_1:Sml y.d.natAbs)(s41_2:Sml (x.d.natAbs*y.d.natAbs))(s42_0:x.d*y.d≠0)(s42_1:SmlZ (x.c0*y.c0+2*x.c1*y.c1+3*x.c2*y.c2+6*x.c3*y.c3))(s42_2:SmlZ (x.c0*y.c1+x.c1*y.c0+3*x.c2*y.c3+3*x.c3*y.c2))(s42_3:SmlZ (x.c0*y.c2+x.c2*y.c0+2*x.c1*y.c3+2*x.c3*y.c1))(s42_4:SmlZ (x.c0*y.c3+x.c3*y.c0+x.c1*y.c2+x.c2*y.c1))(s42_5:SmlZ (x.d*y.d)):PCall P 38 [Z0 x,Z0 y] (Z0 (K.of (x.c0*y.c0+2*x.c1*y.c1+3*x.c2*y.c2+6*x.c3*y.c3) (x.c0*y.c1+x.c1*y.c0+3*x.c2*y.c3+3*x.c3*y.c2) (x.c0*y.c2+x.c2*y.c0+2*x.c1*y.c3+2*x.c3*y.c1) (x.c0*y.c3+x.c3*y.c0+x.c1*y.c2+x.c2*y.c1) (x.d*y.d))):=
 j3 (.r 4 (z0i (x) s4_0) (.r 8 (z0i (y) s8_0) (.r 13 (z4T (x)) (.c (lq 5 5) (.b 21 g1 (.r 23 (z4T (y)) (.c (lq 5 5) (.b 31 g2 (.r 36 (z3Z (x.c0) (x.c1) (x.c2) (x.c3) (y.c0) (y.c1) (y.c2) (y.c3) s36_0) (.r 41 (Y3 (x.d) (y.d) s41_0 s41_1 s41_2) (.r 42 (z8B (x.c0*y.c0+2*x.c1*y.c1+3*x.c2*y.c2+6*x.c3*y.c3) (x.c0*y.c1+x.c1*y.c0+3*x.c2*y.c3+3*x.c3*y.c2) (x.c0*y.c2+x.c2*y.c0+2*x.c1*y.c3+2*x.c3*y.c1) (x.c0*y.c3+x.c3*y.c0+x.c1*y.c2+x.c2*y.c1) (x.d*y.d) s42_0 s42_1 s42_2 s42_3 s42_4 s42_5) (.c (lq 10 10) .nil)))))))))))) (by kernel_rfl)
end Go.Fw
open Go
namespace Go.Fw
set_option maxRecDepth 100000
theorem zg2 {n : Nat} (hn : n + n + 1 < 1073741824) {a0 a1 a2 a3 b0 b1 b2 b3 : Int} (ha : By4 n a0 a1 a2 a3) (hb : By4 n b0 b1 b2 b3) :
    SmlZ (a0*b0+2*a1*b1+3*a2*b2+6*a3*b3)∧SmlZ (a0*b1+a1*b0+3*a2*b3+3*a3*b2)∧SmlZ (a0*b2+a2*b0+2*a1*b3+2*a3*b1)∧SmlZ (a0*b3+a3*b0+a1*b2+a2*b1):=by
 obtain⟨x0,x1,x2,x3⟩:=ha
 obtain⟨y0,y1,y2,y3⟩:=hb
 have c:=fun(k a b:Int)=>Int.mul_assoc k a b
 have key: ∀{a b:Int},By n a→By n b→(a*b).natAbs<256^(n+n):=fun ha hb=>ha.mul hb
 obtain⟨M,hM⟩: ∃M,M=256^(n+n):=⟨_,rfl⟩
 have fin: ∀z:Int,z.natAbs<256*M→SmlZ z:=fun z hz=>Sml.of_lt (k:=n+n+1) (by rw[Nat.pow_succ,←hM,Nat.mul_comm];exact hz) hn
 refine⟨fin _ ?_,fin _ ?_,fin _ ?_,fin _ ?_⟩
 · have h1:=key x0 y0;have h2:=key x1 y1;have h3:=key x2 y2;have h4:=key x3 y3
   rw[←hM]at h1 h2 h3 h4
   rw[c,c,c];omega
 · have h1:=key x0 y1;have h2:=key x1 y0;have h3:=key x2 y3;have h4:=key x3 y2
   rw[←hM]at h1 h2 h3 h4
   rw[c,c];omega
 · have h1:=key x0 y2;have h2:=key x2 y0;have h3:=key x1 y3;have h4:=key x3 y1
   rw[←hM]at h1 h2 h3 h4
   rw[c,c];omega
 · have h1:=key x0 y3;have h2:=key x3 y0;have h3:=key x1 y2;have h4:=key x2 y1
   rw[←hM]at h1 h2 h3 h4
   omega
theorem z54(x y:K)(hx:x.sz≤1000000)(hy:y.sz≤1000000):PCall P 38 [Z0 x,Z0 y] (Z0 (x*y)):=by
 have hxs:=hx
 have hys:=hy
 obtain⟨x0,x1,x2,x3,xd⟩:=By.of_sz hx
 obtain⟨y0,y1,y2,y3,yd⟩:=By.of_sz hy
 have L:(1000000:Nat)<1073741824:=by decide
 have L2:(1000000:Nat)+1000000<1073741824:=by decide
 have hb:By4 1000000 x.c0 x.c1 x.c2 x.c3:=⟨x0,x1,x2,x3⟩
 have hb':By4 1000000 y.c0 y.c1 y.c2 y.c3:=⟨y0,y1,y2,y3⟩
 obtain⟨s0,s1,s2,s3⟩:=zg2 (by decide) hb hb'
 have hex: ∃n,n≤500000000∧By4 n x.c0 x.c1 x.c2 x.c3∧By4 n y.c0 y.c1 y.c2 y.c3:=⟨1000000,by decide,hb,hb'⟩
 have dn:x.d*y.d≠0:=Int.mul_ne_zero x.d_ne y.d_ne
 cases h1:z8g x
 · exact zmO x y h1 hxs hys hex (xd.sml L) (yd.sml L) (xd.sm2 yd L2) dn s0 s1 s2 s3 ((xd.mul yd).sml L2)
 · cases h2:z8g y
   · exact zmr x y h1 h2 hxs hys hex (xd.sml L) (yd.sml L) (xd.sm2 yd L2) dn s0 s1 s2 s3 ((xd.mul yd).sml L2)
   · exact zl0 x y (z41 h1) (z41 h2)
theorem zmY(x y:K)(hx:x.sz≤1000000)(hy:y.sz≤1000000):PCall P 39 [Z0 x,Z0 y] (Z0 (x-y)):=zoz x y hy hx (by rw[K.sz_neg];exact hy)
end Go.Fw
open Go IntKind
namespace Go.Fw
set_option maxRecDepth 100000
theorem zkD(x y:K)(s5_0:Smk y)(s6_0:x.sz+(-y).sz+2<1073741824):PCall P 135 [Z0 x,Z0 y] (Z0 (x+ -y)):=
 j3 (.r 5 (zaz (y) s5_0) (.r 6 (z70 (x) (-y) s6_0) (.c (lq 10 10) .nil))) (by kernel_rfl)
end Go.Fw
open Go
namespace Go.Fw
theorem zmw(x y:K)(h:x.sz+y.sz+2<1073741824):PCall P 135 [Z0 x,Z0 y] (Z0 (x-y)):=zkD x y (by simp only[Smk];omega) (by rw[K.sz_neg];exact h)
end Go.Fw
open Go
namespace Go.Fw
set_option maxRecDepth 100000
def z0b:List CV:=[.lit (.bool false),Y5 ⟨#[]⟩,.lit (.bool false),Y5 ⟨#[]⟩,.lit (.bool false),Y5 ⟨#[]⟩,.lit (.bool false),Y5 ⟨#[]⟩,.lit (.bool false),Y5 ⟨#[]⟩]
def z0s:CV:= .agg (z0b++(z0b++z0b))
end Go.Fw
open Go
namespace Go.Fw
set_option maxRecDepth 100000
def znj(n:Nat)(x y z:RN):Bool:=x.raw n&&(y.raw n&&z.raw n)
def ok3(x y z:RN):Bool:=x.ok&&(y.ok&&z.ok)
theorem z0A{n:Nat}{x y z:RN}:znj n x y z=true↔x.raw n=true∧y.raw n=true∧z.raw n=true:=by simp[znj]
theorem RN.raw_mono{x:RN}{n m:Nat}(h:x.raw n=true)(hm:n≤m):x.raw m=true:=by
 unfold RN.raw at h ⊢
 simp only[Bool.and_eq_true,decide_eq_true_eq]at h ⊢
 omega
end Go.Fw
open Go
namespace Go.Fw
set_option maxRecDepth 100000
theorem z2Z{a b:ByteArray}(h:Y5 a=Y5 b):a=b:=by injection h with h;injection h
theorem zqo{x:RN}{k:K}{n:Nat}(h:x.l=zbj k)(hr:x.raw n=true):k.sz≤n:=by
 unfold RN.l zbj at h
 simp only[List.cons.injEq,and_true]at h
 obtain⟨_,e0,_,e1,_,e2,_,e3,_,e4⟩:=h
 have f0:=z2Z e0
 have f1:=z2Z e1
 have f2:=z2Z e2
 have f3:=z2Z e3
 have f4:=z2Z e4
 unfold RN.raw at hr
 simp only[Bool.and_eq_true,decide_eq_true_eq]at hr
 rw[f0,f1,f2,f3,f4]at hr
 exact K.sz_le.2 ⟨V5.1 hr.1.1.1.1,V5.1 hr.1.1.1.2,V5.1 hr.1.1.2,V5.1 hr.1.2,V5.1 hr.2⟩
def RN.zero:RN:=⟨false,⟨#[]⟩,false,⟨#[]⟩,false,⟨#[]⟩,false,⟨#[]⟩,false,⟨#[]⟩⟩
end Go.Fw
open Go
namespace Go.Fw
set_option maxRecDepth 100000
theorem z2w{a b:Int}(h1:CV.lit (.bool (decide (a<0)))=CV.lit (.bool (decide (b<0))))(h2:Y5 (bytesOf a.natAbs)=Y5 (bytesOf b.natAbs)):a=b:=by
 have e2:=z5N (z2Z h2)
 injection h1 with h1
 injection h1 with h1
 rw[decide_eq_decide]at h1
 omega
theorem zf2{x y:K}(h:zbj x=zbj y):x=y:=by
 unfold zbj at h
 simp only[List.cons.injEq,and_true]at h
 obtain⟨a0,b0,a1,b1,a2,b2,a3,b3,a4,b4⟩:=h
 have e0:=z2w a0 b0
 have e1:=z2w a1 b1
 have e2:=z2w a2 b2
 have e3:=z2w a3 b3
 have e4:=z2w a4 b4
 cases x
 cases y
 simp only at e0 e1 e2 e3 e4
 subst e0 e1 e2 e3 e4
 rfl
noncomputable def toO(x:RN):Option K:=if h:x.ok=true then some (RN.ok_k h).choose else none
def ofO:Option K→RN
 |none=> .zero
 |some k=> .ofK k
theorem zio{x:RN}(h:x.ok=true): ∃k,toO x=some k∧x.l=zbj k:=⟨(RN.ok_k h).choose,dif_pos h,(RN.ok_k h).choose_spec⟩
theorem z7C{x:RN}(h:x.ok=false):toO x=none:=dif_neg (by rw[h];decide)
theorem z7d(k:K):toO (.ofK k)=some k:=by
 obtain⟨k',h1,h2⟩:=zio (RN.ofK_ok k)
 rw[RN.ofK_l]at h2
 rw[h1,zf2 h2]
theorem z43:toO .zero=none:=z7C (by decide)
theorem z7e(o:Option K):toO (ofO o)=o:=by
 cases o with
 |none=>exact z43
 |some k=>exact z7d k
theorem z0L{x:RN}{k:K}(h:toO x=some k):x.ok=true∧x.l=zbj k:=by
 cases e:x.ok
 · rw[z7C e]at h;cases h
 · obtain⟨k',h1,h2⟩:=zio e
   rw[h1]at h
   injection h with h
   subst h
   exact⟨rfl,h2⟩
theorem U5{x:RN}(h:toO x=none):x.ok=false:=by
 cases e:x.ok
 · rfl
 · obtain⟨k',h1,_⟩:=zio e
   rw[h1]at h;cases h
theorem z9s{x:RN}{k:K}(h:x.l=zbj k):x.c=Z0 k:=by
 show CV.agg x.l=_
 rw[h];rfl
def osz:Option K→Nat
 |none=>0
 |some k=>k.sz
theorem z16{o:Option K}{n:Nat}(h:osz o≤n):(ofO o).raw n=true:=by
 cases o with
 |none=>
  show RN.raw n .zero=true
  have h0:decide ((⟨#[]⟩:ByteArray).size≤n)=true:=decide_eq_true (Nat.zero_le _)
  show(decide ((⟨#[]⟩:ByteArray).size≤n)&&decide ((⟨#[]⟩:ByteArray).size≤n)&&decide ((⟨#[]⟩:ByteArray).size≤n)&&decide ((⟨#[]⟩:ByteArray).size≤n)&&decide ((⟨#[]⟩:ByteArray).size≤n))=true
  generalize decide ((⟨#[]⟩:ByteArray).size≤n)=q at h0
  subst h0;rfl
 |some k=>exact RN.ofK_raw k h
theorem z1j{x:RN}{n:Nat}(h:x.raw n=true):osz (toO x)≤n:=by
 cases e:toO x with
 |none=>exact Nat.zero_le _
 |some k=>exact zqo (z0L e).2 h
def zqr:Option K→Option K→Option K
 |some x,some y=>some (x*y)
 |_,_=>none
def zpx:Option K→Option K→Option K
 |some x,some y=>some (x+y)
 |_,_=>none
def zpy:Option K→Option K→Option K
 |some x,some y=>some (x-y)
 |_,_=>none
def zpj:Option K→Option K
 |some x=>some (-x)
 |none=>none
theorem zkp(x y:Option K):osz (zqr x y)≤osz x+osz y+1:=by
 cases x<;>cases y<;>first|exact Nat.zero_le _|exact K.sz_mul _ _
theorem zhu(x y:Option K):osz (zpx x y)≤osz x+osz y+1:=by
 cases x<;>cases y<;>first|exact Nat.zero_le _|exact K.sz_add _ _
theorem ziH(x y:Option K):osz (zpy x y)≤osz x+osz y+1:=by
 cases x<;>cases y<;>first|exact Nat.zero_le _|exact K.sz_sub _ _
theorem zdU(x:Option K):osz (zpj x)=osz x:=by
 cases x
 · rfl
 · exact K.sz_neg _
end Go.Fw
open Go IntKind
namespace Go.Fw
set_option maxRecDepth 100000
theorem zik(x y:RN)(g:x.ok=false)(s4_0:RN.raw 1000000 x=true):PCall P 37 [x.c,y.c] (.agg z0b):=
 j3 (.r 4 ((z06 (x) s4_0).eqB g) (.c (lq 10 10) .nil)) (by kernel_rfl)
theorem ziM(x y:RN)(g:x.ok=true)(g2:y.ok=false)(s4_0:RN.raw 1000000 x=true)(s8_0:RN.raw 1000000 y=true):PCall P 37 [x.c,y.c] (.agg z0b):=
 j3 (.r 4 ((z06 (x) s4_0).eqB g) (.r 8 ((z06 (y) s8_0).eqB g2) (.c (lq 10 10) .nil))) (by kernel_rfl)
theorem zhH(x:RN)(g:x.ok=false)(s3_0:RN.raw 1000000 x=true):PCall P 41 [x.c] (.agg z0b):=
 j3 (.r 3 ((z06 (x) s3_0).eqB g) (.c (lq 10 10) .nil)) (by kernel_rfl)
end Go.Fw
open Go
namespace Go.Fw
set_option maxRecDepth 100000
theorem z0M{x:RN}{k:K}{n:Nat}(h:toO x=some k)(hx:x.raw n=true):k.sz≤n:=zqo (z0L h).2 hx
noncomputable def z3c(x y:RN):RN:=ofO (zpx (toO x) (toO y))
noncomputable def z6x(x y:RN):RN:=ofO (zpy (toO x) (toO y))
noncomputable def z2D(x y:RN):RN:=ofO (zqr (toO x) (toO y))
noncomputable def z5y(x:RN):RN:=ofO (zpj (toO x))
theorem zaA(x:RN):toO (z5y x)=zpj (toO x):=z7e _
theorem zlV(x y:RN)(hx:x.raw 1000000=true)(hy:y.raw 1000000=true):PCall P 37 [x.c,y.c] (z3c x y).c:=by
 unfold z3c
 cases ex:toO x with
 |none=>exact zik x y (U5 ex) hx
 |some k=>
  cases ey:toO y with
  |none=>exact ziM x y (z0L ex).1 (U5 ey) hx hy
  |some l=>
   rw[z9s (z0L ex).2,z9s (z0L ey).2]
   exact z6n k l (z0M ex hx) (z0M ey hy)
theorem zmJ(x:RN)(hx:x.raw 1000000=true):PCall P 41 [x.c] (z5y x).c:=by
 unfold z5y
 cases ex:toO x with
 |none=>exact zhH x (U5 ex) hx
 |some k=>
  rw[z9s (z0L ex).2]
  exact zgE k (z0M ex hx)
theorem zmI(x y:Option K):zpx x (zpj y)=zpy x y:=by
 cases x<;>cases y<;>rfl
theorem zmL{x y z:RN}{k l m:K}(hx:toO x=some k)(hy:toO y=some l)(hz:toO z=some m):z71 x y z=z4N k l m:=by
 unfold z71 z4N
 rw[(z0L hx).2,(z0L hy).2,(z0L hz).2]
theorem zgb{x y z:RN}(h:toO x=none∨toO y=none∨toO z=none):ok3 x y z=false:=by
 unfold ok3
 rcases h with h|h|h<;>rw[U5 h]<;>simp
abbrev rnB(x y:RN):Bool:=x.b0==y.b0&&(x.s0==y.s0&&true)&&(x.b1==y.b1&&(x.s1==y.s1&&true)&&(x.b2==y.b2&&(x.s2==y.s2&&true)&&(x.b3==y.b3&&(x.s3==y.s3&&true)&&true)))&&(x.b4==y.b4&&(x.s4==y.s4&&true)&&true)
theorem z2m{x y:RN}:rnB x y=true↔x=y:=by
 cases x
 cases y
 simp only[rnB,zgm,Bool.and_eq_true,beq_iff_eq,and_true,RN.mk.injEq,decide_eq_true_eq]
 constructor
 · rintro⟨⟨h0,h1,h2,h3⟩,h4⟩
   exact⟨h0.1,h0.2,h1.1,h1.2,h2.1,h2.2,h3.1,h3.2,h4.1,h4.2⟩
 · rintro⟨a,b,c,d,e,f,g,h,i,j⟩
   exact⟨⟨⟨a,b⟩,⟨c,d⟩,⟨e,f⟩,⟨g,h⟩⟩,i,j⟩
end Go.Fw
open Go IntKind
namespace Go.Fw
set_option maxRecDepth 100000
theorem zhq(x y:RN)(s5_0:RN.raw 1000000 y=true)(s6_0:RN.raw 1000000 x=true)(s6_1:RN.raw 1000000 (z5y y)=true):PCall P 39 [x.c,y.c] (RN.c (z3c x (z5y y))):=
 j3 (.r 5 (zmJ (y) s5_0) (.r 6 (zlV (x) (z5y y) s6_0 s6_1) (.c (lq 10 10) .nil))) (by kernel_rfl)
end Go.Fw
open Go
namespace Go.Fw
set_option maxRecDepth 100000
theorem zoJ(x y:RN)(hx:x.raw 1000000=true)(hy:y.raw 1000000=true):PCall P 39 [x.c,y.c] (z6x x y).c:=by
 have h:=zhq x y hy hx (z16 (by rw[zdU];exact z1j hy))
 have e:z3c x (z5y y)=z6x x y:=by unfold z3c z6x;rw[zaA,zmI]
 rw[e]at h
 exact h
theorem z7K{x y:RN}{n:Nat}(hx:x.raw n=true)(hy:y.raw n=true):(z2D x y).raw (n+n+1)=true:=by
 have h1:=z1j hx
 have h2:=z1j hy
 have h3:=zkp (toO x) (toO y)
 exact z16 (by omega)
theorem zii{x y:RN}{n:Nat}(hx:x.raw n=true)(hy:y.raw n=true):(z3c x y).raw (n+n+1)=true:=by
 have h1:=z1j hx
 have h2:=z1j hy
 have h3:=zhu (toO x) (toO y)
 exact z16 (by omega)
theorem zdu{x y:RN}{n:Nat}(hx:x.raw n=true)(hy:y.raw n=true):(z6x x y).raw (n+n+1)=true:=by
 have h1:=z1j hx
 have h2:=z1j hy
 have h3:=ziH (toO x) (toO y)
 exact z16 (by omega)
theorem z6b{x:RN}{n:Nat}(hx:x.raw n=true):(z5y x).raw n=true:=z16 (by rw[zdU];exact z1j hx)
end Go.Fw
