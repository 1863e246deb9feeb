/- A part of the proof that the law returns true for every input: an executor for the model's code, and what functions of the program compute. -/
import Derived.Test.YtcafjpldfnegiaaGreatDoorB11
import Derived.Test.YtcafjpldfnegiaaGreatDoorB15
import Derived.Test.YtcafjpldfnegiaaGreatDoorB16
import Derived.Test.YtcafjpldfnegiaaGreatDoorB30
import Derived.Test.YtcafjpldfnegiaaGreatDoorB31
import Derived.KernelRfl
open Go IntKind
namespace Go.Fw
set_option maxRecDepth 100000
theorem zrI(n o m j:Nat)(F t g:Int)(ws xs qs:List Nat)(h1:decide (i64.wrap (g*(↑(ws.getD (0+(i64.wrap ((n:Int)-2)).toNat*1) 0):Int))>i64.wrap (i64.wrap (i64.wrap (t-i64.wrap (g*(↑(ws.getD (0+(i64.wrap ((n:Int)-1)).toNat*1) 0):Int)))*16777216)+(↑(xs.getD (0+(i64.wrap (i64.wrap ((j:Int)+n)-2)).toNat*1) 0):Int)))=true)(h2:decide (i64.wrap (t-i64.wrap (g*(↑(ws.getD (0+(i64.wrap ((n:Int)-1)).toNat*1) 0):Int)))<16777216)=true)(o0:(0:Int)≤i64.wrap ((n:Int)-2)∧i64.wrap ((n:Int)-2)<(n:Int))(o1:(own (j4 ws))[0+(i64.wrap ((n:Int)-2)).toNat*1]?=some (.cv (.lit (.int .i64 (↑(ws.getD (0+(i64.wrap ((n:Int)-2)).toNat*1) 0):Int)))))(o3:(0:Int)≤i64.wrap ((n:Int)-1)∧i64.wrap ((n:Int)-1)<(n:Int))(o4:(own (j4 ws))[0+(i64.wrap ((n:Int)-1)).toNat*1]?=some (.cv (.lit (.int .i64 (↑(ws.getD (0+(i64.wrap ((n:Int)-1)).toNat*1) 0):Int)))))(o6:(0:Int)≤i64.wrap (i64.wrap ((j:Int)+n)-2)∧i64.wrap (i64.wrap ((j:Int)+n)-2)<(o:Int))(o7:(own (j4 xs))[0+(i64.wrap (i64.wrap ((j:Int)+n)-2)).toNat*1]?=some (.cv (.lit (.int .i64 (↑(xs.getD (0+(i64.wrap (i64.wrap ((j:Int)+n)-2)).toNat*1) 0):Int)))))(o10:(0:Int)≤i64.wrap ((n:Int)-1)∧i64.wrap ((n:Int)-1)<(n:Int))(o11:(own (j4 ws))[0+(i64.wrap ((n:Int)-1)).toNat*1]?=some (.cv (.lit (.int .i64 (↑(ws.getD (0+(i64.wrap ((n:Int)-1)).toNat*1) 0):Int))))){R:Goal}(hn:j7 R.n [0,1,2,3]=true)(hR:Ok P 253 (loopHead P 253 1) ⟨J1 238 [(8,.sl 0 0 1 1),(9,.sl (0+1) 0 n 1),(10,.cv (.lit (.int .i64 (n:Int)))),(11,.sl (0+1+1) 0 o 1),(12,.sl (0+1+1+1) 0 m 1),(13,.cv (.lit (.int .i64 (j:Int)))),(14,.cv (.lit (.int .i64 t))),(15,.cv (.lit (.int .i64 (i64.wrap (g-1)))))],[some [.cv (.lit (.int .i64 F))],some (own (j4 ws)),some (own (j4 xs)),some (own (j4 qs))]⟩ R):Ok P 253 (loopHead P 253 1) ⟨J1 238 [(8,.sl 0 0 1 1),(9,.sl 1 0 n 1),(10,.cv (j5 (n:Int))),(11,.sl 2 0 o 1),(12,.sl 3 0 m 1),(13,.cv (j5 (j:Int))),(14,.cv (j5 t)),(15,.cv (j5 g))],[some [.cv (j5 F)],some (own (j4 ws)),some (own (j4 xs)),some (own (j4 qs))]⟩ R:=
 z07 (keep:=[8,9,10,11,12,13,14,15]) (σ:=[0,1,2,3]) (.c o0 (.e 6 o1 (.c (eqn 1) (.c o3 (.e 14 o4 (.c (eqn 1) (.c o6 (.e 24 o7 (.c (eqn 1) (.b 27 h1 (.c o10 (.e 34 o11 (.c (eqn 1) (.b 39 h2 (.o 43 .stop .nil))))))))))))))) (by kernel_rfl) rfl hn hR (.cons (by simp[CvL]) (.cons (J0 _) (.cons (J0 _) (.cons (J0 _) .nil))))
theorem zqJ(n o m j:Nat)(F t g:Int)(ws xs qs:List Nat)(h1:decide (i64.wrap (g*(↑(ws.getD (0+(i64.wrap ((n:Int)-2)).toNat*1) 0):Int))>i64.wrap (i64.wrap (i64.wrap (t-i64.wrap (g*(↑(ws.getD (0+(i64.wrap ((n:Int)-1)).toNat*1) 0):Int)))*16777216)+(↑(xs.getD (0+(i64.wrap (i64.wrap ((j:Int)+n)-2)).toNat*1) 0):Int)))=true)(h2:decide (i64.wrap (t-i64.wrap (g*(↑(ws.getD (0+(i64.wrap ((n:Int)-1)).toNat*1) 0):Int)))<16777216)=false)(o0:(0:Int)≤i64.wrap ((n:Int)-2)∧i64.wrap ((n:Int)-2)<(n:Int))(o1:(own (j4 ws))[0+(i64.wrap ((n:Int)-2)).toNat*1]?=some (.cv (.lit (.int .i64 (↑(ws.getD (0+(i64.wrap ((n:Int)-2)).toNat*1) 0):Int)))))(o3:(0:Int)≤i64.wrap ((n:Int)-1)∧i64.wrap ((n:Int)-1)<(n:Int))(o4:(own (j4 ws))[0+(i64.wrap ((n:Int)-1)).toNat*1]?=some (.cv (.lit (.int .i64 (↑(ws.getD (0+(i64.wrap ((n:Int)-1)).toNat*1) 0):Int)))))(o6:(0:Int)≤i64.wrap (i64.wrap ((j:Int)+n)-2)∧i64.wrap (i64.wrap ((j:Int)+n)-2)<(o:Int))(o7:(own (j4 xs))[0+(i64.wrap (i64.wrap ((j:Int)+n)-2)).toNat*1]?=some (.cv (.lit (.int .i64 (↑(xs.getD (0+(i64.wrap (i64.wrap ((j:Int)+n)-2)).toNat*1) 0):Int)))))(o10:(0:Int)≤i64.wrap ((n:Int)-1)∧i64.wrap ((n:Int)-1)<(n:Int))(o11:(own (j4 ws))[0+(i64.wrap ((n:Int)-1)).toNat*1]?=some (.cv (.lit (.int .i64 (↑(ws.getD (0+(i64.wrap ((n:Int)-1)).toNat*1) 0):Int))))){R:Goal}(hn:j7 R.n [0,1,2,3]=true)(hR:Ok P 253 (loopHead P 253 2) ⟨J1 238 [(8,.sl 0 0 1 1),(9,.sl (0+1) 0 n 1),(10,.cv (.lit (.int .i64 (n:Int)))),(11,.sl (0+1+1) 0 o 1),(12,.sl (0+1+1+1) 0 m 1),(13,.cv (.lit (.int .i64 (j:Int)))),(15,.cv (.lit (.int .i64 g))),(16,.cv (.lit (.int .i64 0))),(17,.cv (.lit (.int .i64 0)))],[some [.cv (.lit (.int .i64 F))],some (own (j4 ws)),some (own (j4 xs)),some (own (j4 qs))]⟩ R):Ok P 253 (loopHead P 253 1) ⟨J1 238 [(8,.sl 0 0 1 1),(9,.sl 1 0 n 1),(10,.cv (j5 (n:Int))),(11,.sl 2 0 o 1),(12,.sl 3 0 m 1),(13,.cv (j5 (j:Int))),(14,.cv (j5 t)),(15,.cv (j5 g))],[some [.cv (j5 F)],some (own (j4 ws)),some (own (j4 xs)),some (own (j4 qs))]⟩ R:=
 z07 (keep:=[8,9,10,11,12,13,15,16,17]) (σ:=[0,1,2,3]) (.c o0 (.e 6 o1 (.c (eqn 1) (.c o3 (.e 14 o4 (.c (eqn 1) (.c o6 (.e 24 o7 (.c (eqn 1) (.b 27 h1 (.c o10 (.e 34 o11 (.c (eqn 1) (.b 39 h2 (.o 42 .stop .nil))))))))))))))) (by kernel_rfl) rfl hn hR (.cons (by simp[CvL]) (.cons (J0 _) (.cons (J0 _) (.cons (J0 _) .nil))))
theorem zs0(n o m j:Nat)(F t g:Int)(ws xs qs:List Nat)(h1:decide (i64.wrap (g*(↑(ws.getD (0+(i64.wrap ((n:Int)-2)).toNat*1) 0):Int))>i64.wrap (i64.wrap (i64.wrap (t-i64.wrap (g*(↑(ws.getD (0+(i64.wrap ((n:Int)-1)).toNat*1) 0):Int)))*16777216)+(↑(xs.getD (0+(i64.wrap (i64.wrap ((j:Int)+n)-2)).toNat*1) 0):Int)))=false)(o0:(0:Int)≤i64.wrap ((n:Int)-2)∧i64.wrap ((n:Int)-2)<(n:Int))(o1:(own (j4 ws))[0+(i64.wrap ((n:Int)-2)).toNat*1]?=some (.cv (.lit (.int .i64 (↑(ws.getD (0+(i64.wrap ((n:Int)-2)).toNat*1) 0):Int)))))(o3:(0:Int)≤i64.wrap ((n:Int)-1)∧i64.wrap ((n:Int)-1)<(n:Int))(o4:(own (j4 ws))[0+(i64.wrap ((n:Int)-1)).toNat*1]?=some (.cv (.lit (.int .i64 (↑(ws.getD (0+(i64.wrap ((n:Int)-1)).toNat*1) 0):Int)))))(o6:(0:Int)≤i64.wrap (i64.wrap ((j:Int)+n)-2)∧i64.wrap (i64.wrap ((j:Int)+n)-2)<(o:Int))(o7:(own (j4 xs))[0+(i64.wrap (i64.wrap ((j:Int)+n)-2)).toNat*1]?=some (.cv (.lit (.int .i64 (↑(xs.getD (0+(i64.wrap (i64.wrap ((j:Int)+n)-2)).toNat*1) 0):Int))))){R:Goal}(hn:j7 R.n [0,1,2,3]=true)(hR:Ok P 253 (loopHead P 253 2) ⟨J1 238 [(8,.sl 0 0 1 1),(9,.sl (0+1) 0 n 1),(10,.cv (.lit (.int .i64 (n:Int)))),(11,.sl (0+1+1) 0 o 1),(12,.sl (0+1+1+1) 0 m 1),(13,.cv (.lit (.int .i64 (j:Int)))),(15,.cv (.lit (.int .i64 g))),(16,.cv (.lit (.int .i64 0))),(17,.cv (.lit (.int .i64 0)))],[some [.cv (.lit (.int .i64 F))],some (own (j4 ws)),some (own (j4 xs)),some (own (j4 qs))]⟩ R):Ok P 253 (loopHead P 253 1) ⟨J1 238 [(8,.sl 0 0 1 1),(9,.sl 1 0 n 1),(10,.cv (j5 (n:Int))),(11,.sl 2 0 o 1),(12,.sl 3 0 m 1),(13,.cv (j5 (j:Int))),(14,.cv (j5 t)),(15,.cv (j5 g))],[some [.cv (j5 F)],some (own (j4 ws)),some (own (j4 xs)),some (own (j4 qs))]⟩ R:=
 z07 (keep:=[8,9,10,11,12,13,15,16,17]) (σ:=[0,1,2,3]) (.c o0 (.e 6 o1 (.c (eqn 1) (.c o3 (.e 14 o4 (.c (eqn 1) (.c o6 (.e 24 o7 (.c (eqn 1) (.b 27 h1 (.o 42 .stop .nil))))))))))) (by kernel_rfl) rfl hn hR (.cons (by simp[CvL]) (.cons (J0 _) (.cons (J0 _) (.cons (J0 _) .nil))))
theorem zjX(n o m j i:Nat)(F g c x y:Int)(ws qs:List Nat)(cs:List MV)(g1:decide ((i:Int)<n)=false)(h1:decide (y<0)=true)(o1:(0:Int)≤i64.wrap ((j:Int)+n)∧i64.wrap ((j:Int)+n)<(o:Int))(o2:cs[0+(i64.wrap ((j:Int)+n)).toNat*1]?=some (.cv (.lit (.int .i64 x))))(o4:(0:Int)≤i64.wrap ((j:Int)+n)∧i64.wrap ((j:Int)+n)<(o:Int))(o5:0+(i64.wrap ((j:Int)+n)).toNat*1+1≤cs.length)(o6:(0:Int)≤i64.wrap ((j:Int)+n)∧i64.wrap ((j:Int)+n)<(o:Int))(o7:(j6 cs (0+(i64.wrap ((j:Int)+n)).toNat*1) [.cv (.lit (.int .i64 (i64.wrap (x+c))))])[0+(i64.wrap ((j:Int)+n)).toNat*1]?=some (.cv (.lit (.int .i64 y))))(o12:CvL (j6 cs (0+(i64.wrap ((j:Int)+n)).toNat*1) [.cv (.lit (.int .i64 (i64.wrap (x+c))))])){R:Goal}(hn:j7 R.n [0,1,2,3]=true)(hR:Ok P 253 (loopHead P 253 3) ⟨J1 238 [(8,.sl 0 0 1 1),(9,.sl (0+1) 0 n 1),(10,.cv (.lit (.int .i64 (n:Int)))),(11,.sl (0+1+1) 0 o 1),(12,.sl (0+1+1+1) 0 m 1),(13,.cv (.lit (.int .i64 (j:Int)))),(15,.cv (.lit (.int .i64 (i64.wrap (g-1))))),(16,.cv (.lit (.int .i64 0))),(18,.cv (.lit (.int .i64 0)))],[some [.cv (.lit (.int .i64 F))],some (own (j4 ws)),some (j6 cs (0+(i64.wrap ((j:Int)+n)).toNat*1) [.cv (.lit (.int .i64 (i64.wrap (x+c))))]),some (own (j4 qs))]⟩ R):Ok P 253 (loopHead P 253 2) ⟨J1 238 [(8,.sl 0 0 1 1),(9,.sl 1 0 n 1),(10,.cv (j5 (n:Int))),(11,.sl 2 0 o 1),(12,.sl 3 0 m 1),(13,.cv (j5 (j:Int))),(15,.cv (j5 g)),(16,.cv (j5 c)),(17,.cv (j5 (i:Int)))],[some [.cv (j5 F)],some (own (j4 ws)),some cs,some (own (j4 qs))]⟩ R:=
 z07 (keep:=[8,9,10,11,12,13,15,16,18]) (σ:=[0,1,2,3]) (.b 4 g1 (.c o1 (.c o2 (.c (eqn 1) (.c o4 (.c o5 (.c o6 (.c o7 (.c (eqn 1) (.o 10 (.e (.cv (j5 x))) (.o 20 (.e (.cv (j5 y))) (.b 22 h1 (.o 28 .stop .nil))))))))))))) (by kernel_rfl) rfl hn hR (.cons (by simp[CvL]) (.cons (J0 _) (.cons o12 (.cons (J0 _) .nil))))
theorem zkt(n o m j i:Nat)(F g c x y:Int)(ws qs:List Nat)(cs:List MV)(g1:decide ((i:Int)<n)=false)(h1:decide (y<0)=false)(o1:(0:Int)≤i64.wrap ((j:Int)+n)∧i64.wrap ((j:Int)+n)<(o:Int))(o2:cs[0+(i64.wrap ((j:Int)+n)).toNat*1]?=some (.cv (.lit (.int .i64 x))))(o4:(0:Int)≤i64.wrap ((j:Int)+n)∧i64.wrap ((j:Int)+n)<(o:Int))(o5:0+(i64.wrap ((j:Int)+n)).toNat*1+1≤cs.length)(o6:(0:Int)≤i64.wrap ((j:Int)+n)∧i64.wrap ((j:Int)+n)<(o:Int))(o7:(j6 cs (0+(i64.wrap ((j:Int)+n)).toNat*1) [.cv (.lit (.int .i64 (i64.wrap (x+c))))])[0+(i64.wrap ((j:Int)+n)).toNat*1]?=some (.cv (.lit (.int .i64 y))))(o10:(0:Int)≤j∧(j:Int)<m)(o11:0+(j:Int).toNat*1+1≤(own (j4 qs)).length)(o14:CvL (j6 cs (0+(i64.wrap ((j:Int)+n)).toNat*1) [.cv (.lit (.int .i64 (i64.wrap (x+c))))]))(o15:CvL (j6 (own (j4 qs)) (0+(j:Int).toNat*1) [.cv (.lit (.int .i64 g))])){R:Goal}(hn:j7 R.n [0,1,2,3]=true)(hR:Ok P 253 (loopHead P 253 0) ⟨J1 238 [(8,.sl 0 0 1 1),(9,.sl (0+1) 0 n 1),(10,.cv (.lit (.int .i64 (n:Int)))),(11,.sl (0+1+1) 0 o 1),(12,.sl (0+1+1+1) 0 m 1),(13,.cv (.lit (.int .i64 (i64.wrap ((j:Int)-1)))))],[some [.cv (.lit (.int .i64 F))],some (own (j4 ws)),some (j6 cs (0+(i64.wrap ((j:Int)+n)).toNat*1) [.cv (.lit (.int .i64 (i64.wrap (x+c))))]),some (j6 (own (j4 qs)) (0+(j:Int).toNat*1) [.cv (.lit (.int .i64 g))])]⟩ R):Ok P 253 (loopHead P 253 2) ⟨J1 238 [(8,.sl 0 0 1 1),(9,.sl 1 0 n 1),(10,.cv (j5 (n:Int))),(11,.sl 2 0 o 1),(12,.sl 3 0 m 1),(13,.cv (j5 (j:Int))),(15,.cv (j5 g)),(16,.cv (j5 c)),(17,.cv (j5 (i:Int)))],[some [.cv (j5 F)],some (own (j4 ws)),some cs,some (own (j4 qs))]⟩ R:=
 z07 (keep:=[8,9,10,11,12,13]) (σ:=[0,1,2,3]) (.b 4 g1 (.c o1 (.c o2 (.c (eqn 1) (.c o4 (.c o5 (.c o6 (.c o7 (.c (eqn 1) (.o 10 (.e (.cv (j5 x))) (.o 20 (.e (.cv (j5 y))) (.b 22 h1 (.c o10 (.c o11 (.o 31 .stop .nil))))))))))))))) (by kernel_rfl) rfl hn hR (.cons (by simp[CvL]) (.cons (J0 _) (.cons o14 (.cons o15 .nil))))
theorem zjV(n o m j i:Nat)(F g c x:Int)(ws qs:List Nat)(cs:List MV)(g1:decide ((i:Int)<n)=false)(o1:(0:Int)≤i64.wrap ((j:Int)+n)∧i64.wrap ((j:Int)+n)<(o:Int))(o2:cs[0+(i64.wrap ((j:Int)+n)).toNat*1]?=some (.cv (.lit (.int .i64 x))))(o4:(0:Int)≤i64.wrap ((j:Int)+n)∧i64.wrap ((j:Int)+n)<(o:Int))(o5:0+(i64.wrap ((j:Int)+n)).toNat*1+1≤cs.length)(o6:(0:Int)≤j∧(j:Int)<m)(o7:0+(j:Int).toNat*1+1≤(own (j4 qs)).length)(o10:CvL (j6 cs (0+(i64.wrap ((j:Int)+n)).toNat*1) [.cv (.lit (.int .i64 (i64.wrap (x+c))))]))(o11:CvL (j6 (own (j4 qs)) (0+(j:Int).toNat*1) [.cv (.lit (.int .i64 g))])){R:Goal}(hn:j7 R.n [0,1,2,3]=true)(hR:Ok P 253 (loopHead P 253 0) ⟨J1 238 [(8,.sl 0 0 1 1),(9,.sl (0+1) 0 n 1),(10,.cv (.lit (.int .i64 (n:Int)))),(11,.sl (0+1+1) 0 o 1),(12,.sl (0+1+1+1) 0 m 1),(13,.cv (.lit (.int .i64 (i64.wrap ((j:Int)-1)))))],[some [.cv (.lit (.int .i64 F))],some (own (j4 ws)),some (j6 cs (0+(i64.wrap ((j:Int)+n)).toNat*1) [.cv (.lit (.int .i64 (i64.wrap (x+c))))]),some (j6 (own (j4 qs)) (0+(j:Int).toNat*1) [.cv (.lit (.int .i64 g))])]⟩ R):Ok P 253 (loopHead P 253 3) ⟨J1 238 [(8,.sl 0 0 1 1),(9,.sl 1 0 n 1),(10,.cv (j5 (n:Int))),(11,.sl 2 0 o 1),(12,.sl 3 0 m 1),(13,.cv (j5 (j:Int))),(15,.cv (j5 g)),(16,.cv (j5 c)),(18,.cv (j5 (i:Int)))],[some [.cv (j5 F)],some (own (j4 ws)),some cs,some (own (j4 qs))]⟩ R:=
 z07 (keep:=[8,9,10,11,12,13]) (σ:=[0,1,2,3]) (.b 4 g1 (.c o1 (.c o2 (.c (eqn 1) (.c o4 (.c o5 (.c o6 (.c o7 (.o 10 (.e (.cv (j5 x))) (.o 23 .stop .nil)))))))))) (by kernel_rfl) rfl hn hR (.cons (by simp[CvL]) (.cons (J0 _) (.cons o10 (.cons o11 .nil))))
abbrev dS0(n o m:Nat)(j F:Int)(ws xs qs:List Nat):St:=⟨J1 238 [(8,.sl 0 0 1 1),(9,.sl 1 0 n 1),(10,.cv (j5 (n:Int))),(11,.sl 2 0 o 1),(12,.sl 3 0 m 1),(13,.cv (j5 j))],[some [.cv (j5 F)],some (own (j4 ws)),some (own (j4 xs)),some (own (j4 qs))]⟩
abbrev dS1(n o m j:Nat)(F t g:Int)(ws xs qs:List Nat):St:=⟨J1 238 [(8,.sl 0 0 1 1),(9,.sl 1 0 n 1),(10,.cv (j5 (n:Int))),(11,.sl 2 0 o 1),(12,.sl 3 0 m 1),(13,.cv (j5 (j:Int))),(14,.cv (j5 t)),(15,.cv (j5 g))],[some [.cv (j5 F)],some (own (j4 ws)),some (own (j4 xs)),some (own (j4 qs))]⟩
theorem zap(n:Nat)(ws:List Nat)(V:Nat)(hws:n≤ws.length)(hwd:Dig B24 ws)(hwv:val B24 (ws.take n)=V){k:Nat}(hk:k<n):ws.getD k 0=V/B24^k%B24:=by
 have:=z34 (j:=0) hwd (by omega:0+n≤ws.length) hk
 rw[Nat.zero_add,List.drop_zero,hwv]at this
 exact this
theorem zsR(n:Nat)(ws:List Nat)(V:Nat)(hws:n≤ws.length)(hwd:Dig B24 ws)(hwv:val B24 (ws.take n)=V):V<B24^n:=by
 rw[←hwv]
 have:=z0I (by decide:0<B24) _ (hwd.take n)
 rwa[show(ws.take n).length=n by simp;omega]at this
theorem z7h{xs:List Nat}{k:Nat}{e:Nat}(h:e=k)(hk:k<xs.length):(own (j4 xs))[e]?=some (MV.cv (CV.lit (.int .i64 ((xs.getD e 0:Nat):Int)))):=by
 subst h
 exact W5 (Y2 hk)
theorem zge {R : Goal} (hn : j7 R.n [0, 1, 2, 3] = true) (n o m j : Nat) (F : Int) (ws xs qs : List Nat) (U V v1 v2 t u2 p : Nat) (G : R24.Guess U V v1 v2 t u2 p) (hn2 : 2 ≤ n) (hws : n ≤ ws.length) (hxs : xs.length = o) (hjn : j + n < o) (ho : o < 2 ^ 41)
    (d1:ws.getD (n-1) 0=v1) (d2:ws.getD (n-2) 0=v2) (du:xs.getD (j+n-2) 0=u2)
    (hk: ∀g:Nat,g<16777216→g=U/V∨g=U/V+1→Ok P 253 (loopHead P 253 2) (dS2 n o m j 0 F (g:Int) 0 ws qs (own (j4 xs))) R):
    ∀g:Nat,R24.Corr U V v1 v2 t u2 g→t-g*v1<33554432→Ok P 253 (loopHead P 253 1) (dS1 n o m j F (t:Int) (g:Int) ws xs qs) R:=by
 have b1:=G.hv1'
 have b2:=G.hv2
 have b3:=G.hu2
 have e1:i64.wrap ((n:Int)-2)=((n-2:Nat):Int):=by rw[w64 (by omega)];omega
 have e2:i64.wrap ((n:Int)-1)=((n-1:Nat):Int):=by rw[w64 (by omega)];omega
 have e3:i64.wrap (i64.wrap ((j:Int)+(n:Int))-2)=((j+n-2:Nat):Int):=by rw[w64 (n:=(j:Int)+n) (by omega),w64 (by omega)];omega
 have f1:(0:Nat)+((n-2:Nat):Int).toNat*1=n-2:=by omega
 have f2:(0:Nat)+((n-1:Nat):Int).toNat*1=n-1:=by omega
 have f3:(0:Nat)+((j+n-2:Nat):Int).toNat*1=j+n-2:=by omega
 have l1:=z7h (xs:=ws) (k:=n-2) (e:=0+(i64.wrap ((n:Int)-2)).toNat*1) (by rw[e1];exact f1) (by omega)
 have l2:=z7h (xs:=ws) (k:=n-1) (e:=0+(i64.wrap ((n:Int)-1)).toNat*1) (by rw[e2];exact f2) (by omega)
 have l3:=z7h (xs:=xs) (k:=j+n-2) (e:=0+(i64.wrap (i64.wrap ((j:Int)+(n:Int))-2)).toNat*1) (by rw[e3];exact f3) (by omega)
 have q1:(0:Int)≤i64.wrap ((n:Int)-2)∧i64.wrap ((n:Int)-2)<(n:Int):=by rw[e1];omega
 have q2:(0:Int)≤i64.wrap ((n:Int)-1)∧i64.wrap ((n:Int)-1)<(n:Int):=by rw[e2];omega
 have q3:(0:Int)≤i64.wrap (i64.wrap ((j:Int)+(n:Int))-2)∧i64.wrap (i64.wrap ((j:Int)+(n:Int))-2)<(o:Int):=by rw[e3];omega
 intro g
 induction g using Nat.strongRecOn with
 |_ g ih=>
  intro c hr
  obtain⟨m1,m2,m3⟩:=zcg c.lt b1 b2 b3 c.mul hr
  have cm:=c.mul
  have cl:g<16777216:=c.lt
  by_cases h1:(t-g*v1)*16777216+u2<g*v2
  · by_cases h2:t-g*v1<16777216
    · refine zrI n o m j F _ _ ws _ qs ?_ ?_ q1 l1 q2 l2 q3 l3 q2 l2 hn ?_
      · rw[e1,e2,e3,f1,f2,f3,d1,d2,du,m1,m2,m3];exact decide_eq_true (by exact_mod_cast h1)
      · rw[e2,f2,d1,m2];exact decide_eq_true (by omega)
      · obtain⟨k1,k2⟩:=R24.Corr.step G c h1
        have e4:i64.wrap ((g:Int)-1)=((g-1:Nat):Int):=by rw[w64 (by omega)];omega
        rw[e4]
        refine ih (g-1) (by omega) k2 ?_
        have e5:g*v1=(g-1)*v1+v1:=by
         obtain⟨g',rfl⟩: ∃g',g=g'+1:=⟨g-1,by omega⟩
         rw[Nat.add_sub_cancel,Nat.add_mul,Nat.one_mul]
        have b1':v1<16777216:=b1
        omega
    · refine zqJ n o m j F _ _ ws _ qs ?_ ?_ q1 l1 q2 l2 q3 l3 q2 l2 hn ?_
      · rw[e1,e2,e3,f1,f2,f3,d1,d2,du,m1,m2,m3];exact decide_eq_true (by exact_mod_cast h1)
      · rw[e2,f2,d1,m2];exact decide_eq_false (by omega)
      · exact hk g cl (R24.Corr.done G c (.inr (Nat.le_of_not_lt h2)))
  · refine zs0 n o m j F _ _ ws _ qs ?_ q1 l1 q2 l2 q3 l3 hn ?_
    · rw[e1,e2,e3,f1,f2,f3,d1,d2,du,m1,m2,m3];exact decide_eq_false (by exact_mod_cast h1)
    · exact hk g cl (R24.Corr.done G c (.inl (Nat.le_of_not_lt h1)))
theorem Low.set_ge{p:Nat}{zs:List Int}(h:Low p zs){k:Nat}(d:Int)(hk:k<zs.length)(hp:p≤k):Low p (zs.set k d):=by
 intro i hi
 rw[z1J _ _ _ _ hk,if_neg (by omega)]
 exact h i hi
theorem Low.zof{p o W:Nat}:Low p (zof (Z1 B24 o W)):=by
 intro k _
 rw[z7a]
 have:(Z1 B24 o W).getD k 0<16777216:=(U8 (by decide) o W).get (by decide) k
 omega
theorem zbm{zs:List Int}{k:Nat}{c x:Int}(hk:k<zs.length)(hx:zs.getD k 0=x):z1o (B24:Nat) (zs.set k (x+c))=z1o (B24:Nat) zs+c*((B24:Nat):Int)^k:=by
 rw[z5r _ _ _ _ hk,hx,show x+c-x=c by omega]
theorem z7m{o W k:Nat}(h:W/B24^k=0):(zof (Z1 B24 o W)).getD k 0=0:=by
 rw[z7a]
 rcases Nat.lt_or_ge k o with hk|hk
 · rw[W4 _ _ _ _ hk,h];rfl
 · rw[z3C (by rw[j9];exact hk)];rfl
theorem zqR{t v1:Nat}(h:v1<16777216)(ht:t≤v1*16777216+16777215):t<281474993487872:=by omega
section
variable{R:Goal}(hn:j7 R.n [0,1,2,3]=true)(n o m j:Nat)(F:Int)(ws qs:List Nat)(V W Q:Nat)(hQd:Q=W/B24^j/V)(hn2:2≤n)(hws:n≤ws.length)(hwd:Dig B24 ws)(hwv:val B24 (ws.take n)=V)(hV0:0<V)(hjn:j+n<o)(ho:o<2^41)(hW:W<V*B24^(j+1))(hjm:j<m)(hqs:m=qs.length)
 (hR:Ok P 253 (loopHead P 253 0) (dS0 n o m ((j:Int)-1) F ws (Z1 B24 o (W-Q*V*B24^j)) (qs.set j Q)) R)
include hQd hn hws hwd hwv hV0 hjn ho hW hjm hqs hR
omit hW in
theorem znK (zs : List Int) (hz : zs.length = o) (hlo : Low (j + n) zs) (htl : zs.getD (j + n) 0 = -1) (hhi : ∀ k, j + n < k → zs.getD k 0 = 0) (hv : z1o (B24 : Nat) zs = (W : Int) - (((Q + 1) * V * B24 ^ j : Nat) : Int)) :
    Ok P 253 (loopHead P 253 3) (dS3 n o m j 0 F (Q:Int) 0 ws qs (own (z6w zs))) R:=by
 have hV:=zsR n ws V hws hwd hwv
 refine zsj hn n o m j F ws qs hws hwd hjn ho (z1o (B24:Nat) zs) (fun k=>zs.getD k 0) _ ?_ n 0 zs 0 (by omega) (Nat.zero_le _) hz hlo (fun k _=>rfl) (by simp[val]) (by omega)
 intro ys c hy hlo2 htl2 hv2 hc
 have e1:i64.wrap ((j:Int)+(n:Int))=((j+n:Nat):Int):=by rw[w64 (by omega)];omega
 have e2:(0:Nat)+((j+n:Nat):Int).toNat*1=j+n:=by omega
 have e3:i64.wrap ((j:Int)-1)=(j:Int)-1:=w64 (by omega)
 have e4:(0:Nat)+(j:Int).toNat*1=j:=by omega
 have e5:i64.wrap (-1+c)= -1+c:=w64 (by omega)
 have hx:=htl2 (j+n) (Nat.le_refl _)
 rw[htl]at hx
 have gx:=z1t (zs:=ys) (k:=j+n) (by omega)
 rw[hx]at gx
 have hset:j6 (own (z6w ys)) (j+n) [.cv (.lit (.int .i64 (-1+c)))]=own (z6w (ys.set (j+n) (-1+c))):=z2w (by omega)
 have hsq:j6 (own (j4 qs)) j [.cv (.lit (.int .i64 (Q:Int)))]=own (j4 (qs.set j Q)):=Z3 (by omega)
 have hp:=zbm (c:=c) (by omega:j+n<ys.length) hx
 rw[hwv]at hv2
 have hend:=zdu B24 o n j W V Q (ys.set (j+n) (-1+c)) (by decide) (by rw[List.length_set];exact hy) hjn
  (fun k hk=>(hlo2.set_ge (-1+c) (by omega) (Nat.le_refl _)) k hk) (fun k hk=>by rw[z1J _ _ _ _ (by omega),if_neg (by omega),htl2 k (by omega)];exact hhi k hk) hV hV0 hQd (by
   rw[hp,hv2,hv]
   have e:(Q+1)*V*B24^j=Q*V*B24^j+V*B24^j:=by rw[Nat.add_mul,Nat.one_mul,Nat.add_mul]
   rw[e,Int.natCast_add]
   omega)
 refine zjV n o m j n F _ c (-1) ws qs _ (decide_eq_false (by omega)) (by rw[e1];omega) (by rw[e1,e2];exact gx) (by rw[e1];omega) (by rw[e1,e2,J4,z0V];omega) (by omega) (by rw[e4,J4,Q9];omega)
  (by rw[e1,e2,e5,hset];exact J0 _) (by rw[e4,hsq];exact J0 _) hn ?_
 rw[e1,e2,e3,e4,e5,hset,hsq,hend,z7Y]
 exact hR
include hn2
theorem zlf(hVt:8388608≤V/B24^(n-1)):Ok P 253 (loopHead P 253 0) (dS0 n o m (j:Int) F ws (Z1 B24 o W) qs) R:=by
 have hV:=zsR n ws V hws hwd hwv
 have G:=zh5 hn2 hV hVt hW
 have d1:=zap n ws V hws hwd hwv (k:=n-1) (by omega)
 have d2:=zap n ws V hws hwd hwv (k:=n-2) (by omega)
 rw[Nat.mod_eq_of_lt G.hv1']at d1
 have ht:=zne (j:=j) hn2 hV hW
 have htl:=G.top_le
 have e1:i64.wrap ((j:Int)+(n:Int))=((j+n:Nat):Int):=by rw[w64 (by omega)];omega
 have e2:i64.wrap (((j+n:Nat):Int)-1)=((j+n-1:Nat):Int):=by rw[w64 (by omega)];omega
 have e3:i64.wrap ((n:Int)-1)=((n-1:Nat):Int):=by rw[w64 (by omega)];omega
 have f1:(0:Nat)+((j+n:Nat):Int).toNat*1=j+n:=by omega
 have f2:(0:Nat)+((j+n-1:Nat):Int).toNat*1=j+n-1:=by omega
 have f3:(0:Nat)+((n-1:Nat):Int).toNat*1=n-1:=by omega
 have hlen:=j9 B24 o W
 have g1:=W5 (Y2 (xs:=Z1 B24 o W) (i:=j+n) (by omega))
 have g2:=W5 (Y2 (xs:=Z1 B24 o W) (i:=j+n-1) (by omega))
 have g3:=W5 (Y2 (xs:=ws) (i:=n-1) (by omega))
 have x1:(Z1 B24 o W).getD (j+n) 0=W/B24^(j+n)%B24:=W4 _ _ _ _ (by omega)
 have x2:(Z1 B24 o W).getD (j+n-1) 0=W/B24^(j+n-1)%B24:=W4 _ _ _ _ (by omega)
 have x3:(Z1 B24 o W).getD (j+n-2) 0=W/B24^(j+n-2)%B24:=W4 _ _ _ _ (by omega)
 have b1:W/B24^(j+n)%B24<16777216:=Nat.mod_lt _ (by decide)
 have b2:W/B24^(j+n-1)%B24<16777216:=Nat.mod_lt _ (by decide)
 have htop: ∀(a b t:Nat),a<16777216→b<16777216→a*16777216+b=t→i64.wrap (i64.wrap ((a:Int)*16777216)+(b:Int))=(t:Int):=by
  intro a b t ha hb h
  rw[w64 (n:=(a:Int)*16777216) (by omega),w64 (by omega)];omega
 have hw:=htop _ _ _ b1 b2 ht
 have hcs:=R24.Corr.start G
 have hguess:=zge hn n o m j F ws (Z1 B24 o W) qs _ V _ _ _ _ _ G hn2 hws hlen hjn ho d1 d2 x3 ?_
 · have hv1:=G.hv1
   have hv1':V/B24^(n-1)<16777216:=G.hv1'
   have htl':W/B24^(j+n-1)≤V/B24^(n-1)*16777216+16777215:=htl
   have hst:=zbT hVt hv1' htl'
   have hmm:=zgN hVt (zqR hv1' htl')
   refine zqx n o m j F ((W/B24^(j+n)%B24:Nat):Int) ((W/B24^(j+n-1)%B24:Nat):Int) ((V/B24^(n-1):Nat):Int) ws _ qs (by rw[e1];omega) (by rw[e1,f1,←x1];exact g1) (by rw[e1,e2];omega) (by rw[e1,e2,f2,←x2];exact g2)
    (by rw[e3];omega) (by rw[e3,f3,←d1];exact g3) (by omega) hn ?_
   rw[hw,hmm]
   exact hguess _ hcs hst
 · intro g hg hQ
   rw[←hQd]at hQ
   rw[←z7Y]
   refine zsl hn n o m j g F ws qs hws hwd hjn ho (W:Int) (fun k=>(zof (Z1 B24 o W)).getD k 0) hg ?_ n 0 _ 0 (by omega) (Nat.zero_le _) (by rw[z4N];exact hlen) Low.zof (fun k _=>rfl) ?_ (by omega)
   · intro zs c hz hlo hti hv hc
     have hx:=hti (j+n) (Nat.le_refl _)
     have hxb:=(Low.zof (p:=j+n+1) (o:=o) (W:=W)) (j+n) (by omega)
     obtain⟨x,hxe⟩: ∃x,x=(zof (Z1 B24 o W)).getD (j+n) 0:=⟨_,rfl⟩
     rw[←hxe]at hx hxb
     have e5:i64.wrap (x+c)=x+c:=w64 (by omega)
     have e6:(0:Nat)+(j:Int).toNat*1=j:=by omega
     have e7:i64.wrap ((j:Int)-1)=(j:Int)-1:=w64 (by omega)
     have gx:=z1t (zs:=zs) (k:=j+n) (by omega)
     rw[hx]at gx
     have hset:j6 (own (z6w zs)) (j+n) [.cv (.lit (.int .i64 (x+c)))]=own (z6w (zs.set (j+n) (x+c))):=z2w (by omega)
     have gy:=z1t (zs:=zs.set (j+n) (x+c)) (k:=j+n) (by rw[List.length_set];omega)
     rw[z1J _ _ _ _ (by omega),if_pos rfl]at gy
     have hp:=zbm (c:=c) (by omega:j+n<zs.length) hx
     rw[hwv]at hv
     have hlen':(zs.set (j+n) (x+c)).length=o:=by rw[List.length_set];exact hz
     have hlo':=hlo.set_ge (x+c) (by omega:j+n<zs.length) (Nat.le_refl _)
     have hhi': ∀k,j+n<k→(zs.set (j+n) (x+c)).getD k 0=0:=fun k hk=>by
      rw[z1J _ _ _ _ (by omega),if_neg (by omega),hti k (by omega)]
      exact z7m (zdA hV hW hk)
     have hval:z1o (B24:Nat) (zs.set (j+n) (x+c))=(W:Int)-((g*V*B24^j:Nat):Int):=by rw[hp,hv]
     have hat:(zs.set (j+n) (x+c)).getD (j+n) 0=x+c:=by rw[z1J _ _ _ _ (by omega),if_pos rfl]
     rcases hQ with hQ|hQ
     · have hQ':=hQ.symm
       subst hQ'
       have hend:=zdu B24 o n j W V _ (zs.set (j+n) (x+c)) (by decide) hlen' hjn (fun k hk=>hlo' k hk) hhi' hV hV0 hQd hval
       have h0: ¬x+c<0:=by
        rw[hend]at hat
        have:=(Low.zof (p:=j+n+1) (o:=o) (W:=W-Q*V*B24^j)) (j+n) (by omega)
        omega
       have hsq:j6 (own (j4 qs)) j [.cv (.lit (.int .i64 (Q:Int)))]=own (j4 (qs.set j Q)):=Z3 (by omega)
       refine zkt n o m j n F _ c x (x+c) ws qs _ (decide_eq_false (by omega)) (decide_eq_false h0) (by rw[e1];omega) (by rw[e1,f1];exact gx) (by rw[e1];omega) (by rw[e1,f1,J4,z0V];omega) (by rw[e1];omega)
        (by rw[e1,f1,e5,hset];exact gy) (by omega) (by rw[e6,J4,Q9];omega) (by rw[e1,f1,e5,hset];exact J0 _) (by rw[e6,hsq];exact J0 _) hn ?_
       rw[e1,f1,e5,e6,e7,hset,hsq,hend,z7Y]
       exact hR
     · have hQ':=hQ.symm
       subst hQ'
       have hneg:=zlJ B24 o n j W V _ (zs.set (j+n) (x+c)) (by decide) hlen' hjn (fun k hk=>hlo' k hk) hhi' hV hV0 (by rw[hQd]) hval
       have h0:x+c= -1:=by rw[←hat,hneg]
       have e8:i64.wrap (((Q+1:Nat):Int)-1)=(Q:Int):=by rw[w64 (by omega)];omega
       refine zjX n o m j n F _ c x (x+c) ws qs _ (decide_eq_false (by omega)) (decide_eq_true (by omega)) (by rw[e1];omega) (by rw[e1,f1];exact gx) (by rw[e1];omega) (by rw[e1,f1,J4,z0V];omega) (by rw[e1];omega)
        (by rw[e1,f1,e5,hset];exact gy) (by rw[e1,f1,e5,hset];exact J0 _) hn ?_
       rw[e1,f1,e5,e8,hset]
       exact znK hn n o m j F ws qs V W Q hQd hws hwd hwv hV0 hjn ho hjm hqs hR _ hlen' hlo' hneg hhi' hval
   · rw[z3g,z0h]
     have:W<B24^o:=by
      have h1:V*B24^(j+1)≤B24^n*B24^(j+1):=Nat.mul_le_mul_right _ (Nat.le_of_lt hV)
      have h2:B24^n*B24^(j+1)≤B24^o:=by rw[←Nat.pow_add];exact Nat.pow_le_pow_right (by decide) (by omega)
      omega
     rw[Nat.mod_eq_of_lt this]
     simp[val]
end
theorem znS(n o m F:Nat)(ws xs qs:List Nat)(a:o=(List.take o xs).length)(d:Dig 16777216 (List.take o xs))(e:(List.take o xs).length<2^62)(f:(dig 16777216 (val 16777216 (List.take o xs))).length=(dig 16777216 (val 16777216 (List.take o xs))).length)(g:0<F)(i:F<16777216)(j:(dig 16777216 (val 16777216 (List.take o xs))).length<2^40)(k:Dig 16777216 (dig 16777216 (val 16777216 (List.take o xs))))(l:m=(List.take m qs).length)(p:Dig 16777216 (List.take m qs))(q:(List.take m qs).length<2^62)(o1:List.take (o*1) (List.drop 0 (own (j4 xs)))=List.map MV.cv (j4 (List.take o xs)))(o5:List.take (m*1) (List.drop 0 (own (j4 qs)))=List.map MV.cv (j4 (List.take m qs))){R:Goal}(hR:R.c (.tup [.lst (dig 16777216 (val 16777216 (List.take m qs))).length (j4 (dig 16777216 (val 16777216 (List.take m qs)))),.lst (dig 16777216 (val 16777216 (dig 16777216 (val 16777216 (List.take o xs)))/F)).length (j4 (dig 16777216 (val 16777216 (dig 16777216 (val 16777216 (List.take o xs)))/F)))])):Ok P 253 (loopHead P 253 0) ⟨J1 238 [(8,.sl 0 0 1 1),(9,.sl 1 0 n 1),(10,.cv (j5 (n:Int))),(11,.sl 2 0 o 1),(12,.sl 3 0 m 1),(13,.cv (j5 (-1:Int)))],[some [.cv (j5 (F:Int))],some (own (j4 ws)),some (own (j4 xs)),some (own (j4 qs))]⟩ R:=
 okT (.rs 5 [j4 (List.take o xs)] (z0X o (List.take o xs) a d e) (.c o1 (.c (bq 0 1) (.r 9 (zal ((dig 16777216 (val 16777216 (List.take o xs))).length) (dig 16777216 (val 16777216 (List.take o xs))) F f g i j k) (.rs 16 [j4 (List.take m qs)] (z0X m (List.take m qs) l p q) (.c o5 .nil)))))) (by kernel_rfl) hR
theorem zdL {B : Nat} (hB : 0 < B) (Q W V W0 j : Nat) (h1 : Q * B ^ (j + 1) * V + W = W0) (h2 : W < V * B ^ (j + 1)) (hV : 0 < V) :
    W/B^j/V<B∧(Q*B+W/B^j/V)*B^j*V+(W-W/B^j/V*V*B^j)=W0∧W-W/B^j/V*V*B^j<V*B^j:=by
 obtain⟨z1,z2⟩:=z60 W V (V*B^j) j B rfl hV hB
 rw[←Nat.mul_assoc]at z1 z2
 refine⟨?_,?_,?_⟩
 · rw[Nat.div_lt_iff_lt_mul hV,Nat.div_lt_iff_lt_mul (Nat.pow_pos hB),Nat.mul_comm B V,Nat.mul_assoc,Nat.mul_comm B,←Nat.pow_succ];exact h2
 · have h4 : (Q * B + W / B ^ j / V) * B ^ j * V = Q * B ^ (j + 1) * V + W / B ^ j / V * V * B ^ j := by
     rw[Nat.add_mul,Nat.add_mul,Nat.pow_succ]
     congr 1
     · rw[Nat.mul_comm (B^j) B,←Nat.mul_assoc]
     · rw[Nat.mul_assoc,Nat.mul_comm (B^j),←Nat.mul_assoc]
   omega
 · omega
theorem zgk{B:Nat}(hB:0<B)(m j Q q:Nat)(hj:j<m)(hq:q<B):(Z1 B m (Q*B^(j+1))).set j q=Z1 B m ((Q*B+q)*B^j):=by
 have e0:Q*B^(j+1)/B^j%B=0:=by rw[Nat.pow_succ,Nat.mul_comm (B^j),←Nat.mul_assoc,Nat.mul_div_cancel _ (Nat.pow_pos hB),Nat.mul_mod_left]
 have h:=z1g hB m (Q*B^(j+1)) j q hj (by rw[e0,Nat.zero_add];exact hq)
 rw[e0,Nat.zero_add]at h
 rw[h,Nat.add_mul,Nat.pow_succ,Nat.mul_comm (B^j),←Nat.mul_assoc]
theorem zlb {R : Goal} (hn : j7 R.n [0, 1, 2, 3] = true) (n o m F V W0 : Nat) (ws : List Nat) (hn2 : 2 ≤ n) (hws : n ≤ ws.length) (hwd : Dig B24 ws) (hwv : val B24 (ws.take n) = V) (hVt : 8388608 ≤ V / B24 ^ (n - 1)) (hmn : m + n = o) (ho : o < 2 ^ 40)
    (hF0:0<F) (hF:F<16777216) (hV0:0<V) (hR:R.c (.tup [z0r (W0/V),z0r (W0%V/F)])):
    ∀jj:Nat,jj≤m→ ∀Q W:Nat,Q*B24^jj*V+W=W0→W<V*B24^jj→Q*B24^jj<B24^m→
     Ok P 253 (loopHead P 253 0) (dS0 n o m ((jj:Int)-1) (F:Int) ws (Z1 B24 o W) (Z1 B24 m (Q*B24^jj))) R:=by
 have hV:=zsR n ws V hws hwd hwv
 intro jj
 induction jj with
 |zero=>
  intro _ Q W h1 h2 h3
  rw[Nat.pow_zero,Nat.mul_one]at h1 h2 h3 ⊢
  have hWo:W<B24^o:=by
   have:B24^n≤B24^o:=Nat.pow_le_pow_right (by decide) (by omega)
   omega
  have l1:(Z1 B24 o W).take o=Z1 B24 o W:=List.take_of_length_le (by rw[j9];exact Nat.le_refl _)
  have l2:(Z1 B24 m Q).take m=Z1 B24 m Q:=List.take_of_length_le (by rw[j9];exact Nat.le_refl _)
  have v1:val 16777216 (Z1 B24 o W)=W:=by rw[z0h,Nat.mod_eq_of_lt hWo]
  have v2:val 16777216 (Z1 B24 m Q)=Q:=by rw[z0h,Nat.mod_eq_of_lt h3]
  have v3:val 16777216 (dig 16777216 W)=W:=Q8 (by decide) W
  have hdl:(dig 16777216 W).length≤o:=Q1 (by decide) hWo
  have o1:=z01 (Z1 B24 o W)
  have o2:=z01 (Z1 B24 m Q)
  rw[j9]at o1 o2
  have e:(((0:Nat):Int)-1)= -1:=rfl
  rw[e]
  refine znS n o m F ws (Z1 B24 o W) (Z1 B24 m Q) (by rw[l1,j9]) (by rw[l1];exact U8 (by decide) _ _) (by rw[l1,j9];omega) rfl hF0 hF (by rw[l1,v1];omega) (by rw[l1,v1];exact Y8 (by decide) _)
   (by rw[l2,j9]) (by rw[l2];exact U8 (by decide) _ _) (by rw[l2,j9];omega) (by rw[l1];exact o1) (by rw[l2];exact o2) ?_
  rw[l1,l2,v1,v2,v3]
  have d1:W0/V=Q:=by rw[←h1,Nat.mul_comm Q V,Nat.mul_add_div hV0,Nat.div_eq_of_lt h2,Nat.add_zero]
  have d2:W0%V=W:=by rw[←h1,Nat.mul_comm Q V,Nat.mul_add_mod,Nat.mod_eq_of_lt h2]
  rw[d1,d2]at hR
  exact hR
 |succ j ih=>
  intro hj Q W h1 h2 h3
  obtain⟨q1,q2,q3⟩:=zdL (by decide:0<B24) Q W V W0 j h1 h2 hV0
  have e:(((j+1:Nat):Int)-1)=(j:Int):=by omega
  rw[e]
  refine zlf hn n o m j (F:Int) ws _ V W _ rfl hn2 hws hwd hwv hV0 (by omega) (by omega) h2 (by omega) (j9 ..).symm ?_ hVt
  rw[zgk (by decide) m j Q _ (by omega) q1]
  refine ih (by omega) _ _ q2 q3 ?_
  have hq:(Q*B24+W/B24^j/V)*B24^j<(Q+1)*B24^(j+1):=by
   rw[Nat.pow_succ,Nat.mul_comm (B24^j) B24,←Nat.mul_assoc]
   refine Nat.mul_lt_mul_of_pos_right ?_ (Nat.pow_pos (by decide))
   rw[Nat.add_mul,Nat.one_mul];omega
  refine Nat.lt_of_lt_of_le hq ?_
  obtain⟨r,rfl⟩: ∃r,m=r+(j+1):=⟨m-(j+1),by omega⟩
  rw[Nat.pow_add B24 r]at h3 ⊢
  exact Nat.mul_le_mul_right _ (Nat.lt_of_mul_lt_mul_right h3)
theorem zdT{D:Nat}(h:D≠0):B24^((dig B24 D).length-1)≤D:=by
 rcases Nat.lt_or_ge D (B24^((dig B24 D).length-1))with h1|h1
 · have h2:=Q1 (by decide) h1
   have h3:(dig B24 D).length≠0:=by rw[Ne,Y1 (by decide)];exact h
   omega
 · exact h1
theorem zhH{t:Nat}(ht:t<16777216):i64.wrap (Int.tdiv (16777216:Int) (i64.wrap ((t:Int)+(1:Int))))=((16777216/(t+1):Nat):Int):=by
 rw[show i64.wrap ((t:Int)+1)=((t+1:Nat):Int) by rw[w64 (by omega)];omega,show(16777216:Int)=((16777216:Nat):Int)from rfl,z7y]
 have:=Nat.div_le_self 16777216 (t+1)
 exact z9A (by omega)
theorem zeg {D t : Nat} (hD : D ≠ 0) (hm : 2 ≤ (dig B24 D).length) (ht : t = D / B24 ^ ((dig B24 D).length - 1)) :
    t<16777216∧0<16777216/(t+1)∧16777216/(t+1)<16777216∧(dig B24 (D*(16777216/(t+1)))).length=(dig B24 D).length∧8388608≤D*(16777216/(t+1))/B24^((dig B24 D).length-1):=by
 have hlo:=zdT hD
 have hhi:=J8 (b:=B24) (by decide) D
 have hp:0<B24^((dig B24 D).length-1):=Nat.pow_pos (by decide)
 have ep:B24^(dig B24 D).length=B24^((dig B24 D).length-1)*B24:=by
  rw[←Nat.pow_succ];congr 1;omega
 have t0:0<t:=by rw[ht];exact Nat.div_pos hlo hp
 have t1:t<B24:=by rw[ht,Nat.div_lt_iff_lt_mul hp,Nat.mul_comm,←ep];exact hhi
 obtain⟨f1,f2⟩:=R24.factor_top t0 t1
 have hF0:0<16777216/(t+1):=Nat.div_pos t1 (by omega)
 have hF1:16777216/(t+1)<16777216:=Nat.div_lt_self (by decide) (by omega)
 have hd1:t*B24^((dig B24 D).length-1)≤D:=by rw[ht];exact Nat.div_mul_le_self _ _
 have hd2:D<(t+1)*B24^((dig B24 D).length-1):=by
  have h1:=Nat.mod_add_div D (B24^((dig B24 D).length-1))
  have h2:=Nat.mod_lt D hp
  rw[←ht]at h1
  rw[Nat.add_mul,Nat.one_mul,Nat.mul_comm t]
  omega
 refine⟨t1,hF0,hF1,?_,?_⟩
 · refine Nat.le_antisymm (Q1 (by decide) ?_) ?_
   · rw[ep]
     calc D*(16777216/(t+1))<(t+1)*B24^((dig B24 D).length-1)*(16777216/(t+1)):=Nat.mul_lt_mul_of_pos_right hd2 hF0
      _=B24^((dig B24 D).length-1)*((t+1)*(16777216/(t+1))):=by rw[Nat.mul_comm (t+1),Nat.mul_assoc]
      _≤B24^((dig B24 D).length-1)*B24:=Nat.mul_le_mul_left _ f2
   · have h1:D≤D*(16777216/(t+1)):=Nat.le_mul_of_pos_right _ hF0
     exact Z7 (by decide) h1
 · rw[Nat.le_div_iff_mul_le hp]
   calc 8388608*B24^((dig B24 D).length-1)≤t*(16777216/(t+1))*B24^((dig B24 D).length-1):=Nat.mul_le_mul_right _ f1
    _=t*B24^((dig B24 D).length-1)*(16777216/(t+1)):=by rw[Nat.mul_assoc,Nat.mul_comm (16777216/(t+1)),←Nat.mul_assoc]
    _≤D*(16777216/(t+1)):=Nat.mul_le_mul_right _ hd1
end Go.Fw
