/- A part of the proof that the law returns true for every input: an executor for the model's code, and what functions of the program compute. -/
import Derived.Test.YtcafjpldfnegiaaGreatDoorB11
import Derived.Test.YtcafjpldfnegiaaGreatDoorB15
import Derived.Test.YtcafjpldfnegiaaGreatDoorB16
import Derived.Test.YtcafjpldfnegiaaGreatDoorB17
import Derived.KernelRfl
open Go IntKind
namespace Go.Fw
set_option maxRecDepth 100000
theorem ziy(n m:Nat)(i:Int)(xs ys:List Nat)(h1:decide (i≥0)=true)(h2:decide ((↑(xs.getD (i.toNat*1) 0):Int)<(↑(ys.getD (i.toNat*1) 0):Int))=true)(o1:(0:Int)≤i∧i<(n:Int))(o2:(j6 xs)[i.toNat*1]?=some (.lit (.int .u32 ↑(xs.getD (i.toNat*1) 0))))(o4:(0:Int)≤i∧i<(m:Int))(o5:(j6 ys)[i.toNat*1]?=some (.lit (.int .u32 ↑(ys.getD (i.toNat*1) 0)))){R:Goal}(hR:R.c (.lit (.int .i64 (-1:Int)))):Ok P 241 (loopHead P 241 0) ⟨J3 43 [(0,.cv (.lst n (j6 xs))),(1,.cv (.lst m (j6 ys))),(5,.cv (.lit (.int .i64 i)))],[]⟩ R:=
 okT (.b 3 h1 (.c o1 (.l 7 o2 (.c (eqn 1) (.c o4 (.l 11 o5 (.c (eqn 1) (.b 14 h2 .nil)))))))) (by kernel_rfl) hR
theorem zhF(n m:Nat)(i:Int)(xs ys:List Nat)(h1:decide (i≥0)=true)(h2:decide ((↑(xs.getD (i.toNat*1) 0):Int)<(↑(ys.getD (i.toNat*1) 0):Int))=false)(h3:decide ((↑(xs.getD (i.toNat*1) 0):Int)>(↑(ys.getD (i.toNat*1) 0):Int))=true)(o1:(0:Int)≤i∧i<(n:Int))(o2:(j6 xs)[i.toNat*1]?=some (.lit (.int .u32 ↑(xs.getD (i.toNat*1) 0))))(o4:(0:Int)≤i∧i<(m:Int))(o5:(j6 ys)[i.toNat*1]?=some (.lit (.int .u32 ↑(ys.getD (i.toNat*1) 0))))(o8:(0:Int)≤i∧i<(n:Int))(o9:(j6 xs)[i.toNat*1]?=some (.lit (.int .u32 ↑(xs.getD (i.toNat*1) 0))))(o11:(0:Int)≤i∧i<(m:Int))(o12:(j6 ys)[i.toNat*1]?=some (.lit (.int .u32 ↑(ys.getD (i.toNat*1) 0)))){R:Goal}(hR:R.c (.lit (.int .i64 1))):Ok P 241 (loopHead P 241 0) ⟨J3 43 [(0,.cv (.lst n (j6 xs))),(1,.cv (.lst m (j6 ys))),(5,.cv (.lit (.int .i64 i)))],[]⟩ R:=
 okT (.b 3 h1 (.c o1 (.l 7 o2 (.c (eqn 1) (.c o4 (.l 11 o5 (.c (eqn 1) (.b 14 h2 (.c o8 (.l 18 o9 (.c (eqn 1) (.c o11 (.l 22 o12 (.c (eqn 1) (.b 25 h3 .nil))))))))))))))) (by kernel_rfl) hR
theorem ziN(n m:Nat)(i:Int)(xs ys:List Nat)(h1:decide (i≥0)=true)(h2:decide ((↑(xs.getD (i.toNat*1) 0):Int)<(↑(ys.getD (i.toNat*1) 0):Int))=false)(h3:decide ((↑(xs.getD (i.toNat*1) 0):Int)>(↑(ys.getD (i.toNat*1) 0):Int))=false)(o1:(0:Int)≤i∧i<(n:Int))(o2:(j6 xs)[i.toNat*1]?=some (.lit (.int .u32 ↑(xs.getD (i.toNat*1) 0))))(o4:(0:Int)≤i∧i<(m:Int))(o5:(j6 ys)[i.toNat*1]?=some (.lit (.int .u32 ↑(ys.getD (i.toNat*1) 0))))(o8:(0:Int)≤i∧i<(n:Int))(o9:(j6 xs)[i.toNat*1]?=some (.lit (.int .u32 ↑(xs.getD (i.toNat*1) 0))))(o11:(0:Int)≤i∧i<(m:Int))(o12:(j6 ys)[i.toNat*1]?=some (.lit (.int .u32 ↑(ys.getD (i.toNat*1) 0)))){R:Goal}(hn:j9 R.n []=true)(hR:Ok P 241 (loopHead P 241 0) ⟨J3 43 [(0,.cv (.lst n (j6 xs))),(1,.cv (.lst m (j6 ys))),(5,.cv (.lit (.int .i64 (i64.wrap (i-1)))))],[]⟩ R):Ok P 241 (loopHead P 241 0) ⟨J3 43 [(0,.cv (.lst n (j6 xs))),(1,.cv (.lst m (j6 ys))),(5,.cv (.lit (.int .i64 i)))],[]⟩ R:=
 z16 (keep:=[0,1,5]) (σ:=[]) (.b 3 h1 (.c o1 (.l 7 o2 (.c (eqn 1) (.c o4 (.l 11 o5 (.c (eqn 1) (.b 14 h2 (.c o8 (.l 18 o9 (.c (eqn 1) (.c o11 (.l 22 o12 (.c (eqn 1) (.b 25 h3 (.o 29 .stop .nil)))))))))))))))) (by kernel_rfl) rfl hn hR .nil
theorem zhS(n m:Nat)(i:Int)(xs ys:List Nat)(h1:decide (i≥0)=false){R:Goal}(hR:R.c (.lit (.int .i64 0))):Ok P 241 (loopHead P 241 0) ⟨J3 43 [(0,.cv (.lst n (j6 xs))),(1,.cv (.lst m (j6 ys))),(5,.cv (.lit (.int .i64 i)))],[]⟩ R:=
 okT (.b 3 h1 .nil) (by kernel_rfl) hR
theorem zjx(n m o c i:Nat)(xs ys zs:List Nat)(h1:decide ((i:Int)<m)=true)(h2:decide ((i:Int)<n)=true)(a:ys.getD ((i:Int).toNat*1) 0<4294967296)(d:xs.getD ((i:Int).toNat*1) 0<4294967296)(e:c≤1)(o1:(0:Int)≤i∧(i:Int)<m)(o2:(j6 ys)[(i:Int).toNat*1]?=some (.lit (.int .u32 ↑(ys.getD ((i:Int).toNat*1) 0))))(o5:(0:Int)≤i∧(i:Int)<n)(o6:(j6 xs)[(i:Int).toNat*1]?=some (.lit (.int .u32 ↑(xs.getD ((i:Int).toNat*1) 0))))(o9:(0:Int)≤i∧(i:Int)<o)(o10:0+(i:Int).toNat*1+1≤(own (j6 zs)).length)(o11:CvL (j4 (own (j6 zs)) (0+(i:Int).toNat*1) [.cv (.lit (.int .u32 (↑((ys.getD ((i:Int).toNat*1) 0+xs.getD ((i:Int).toNat*1) 0+c)%4294967296):Int)))])){R:Goal}(hn:j9 R.n [0]=true)(hR:Ok P 239 (loopHead P 239 0) ⟨J3 54 [(0,.cv (.lst m (j6 ys))),(1,.cv (.lst n (j6 xs))),(5,.sl 0 0 o 1),(6,.cv (.lit (.int .u32 (↑((ys.getD ((i:Int).toNat*1) 0+xs.getD ((i:Int).toNat*1) 0+c)/4294967296):Int)))),(21,.cv (.lst m (j6 ys))),(22,.cv (.lit (.int .i64 (m:Int)))),(23,.cv (.lit (.int .i64 (i64.wrap ((i:Int)+1)))))],[some (j4 (own (j6 zs)) (0+(i:Int).toNat*1) [.cv (.lit (.int .u32 (↑((ys.getD ((i:Int).toNat*1) 0+xs.getD ((i:Int).toNat*1) 0+c)%4294967296):Int)))])]⟩ R):Ok P 239 (loopHead P 239 0) ⟨J3 54 [(0,.cv (.lst m (j6 ys))),(1,.cv (.lst n (j6 xs))),(5,.sl 0 0 o 1),(6,.cv (.lit (.int .u32 (c:Int)))),(21,.cv (.lst m (j6 ys))),(22,.cv (.lit (.int .i64 (m:Int)))),(23,.cv (.lit (.int .i64 (i:Int))))],[some (own (j6 zs))]⟩ R:=
 z16 (keep:=[0,1,5,6,21,22,23]) (σ:=[0]) (.b 2 h1 (.c o1 (.l 5 o2 (.c (eqn 1) (.b 13 h2 (.c o5 (.l 17 o6 (.c (eqn 1) (.c (z0P (ys.getD ((i:Int).toNat*1) 0) (xs.getD ((i:Int).toNat*1) 0) c a d e) (.c o9 (.c o10 (.o 24 (.r (.tup [.lit (.int .u32 (↑((ys.getD ((i:Int).toNat*1) 0+xs.getD ((i:Int).toNat*1) 0+c)%4294967296):Int)),.lit (.int .u32 (↑((ys.getD ((i:Int).toNat*1) 0+xs.getD ((i:Int).toNat*1) 0+c)/4294967296):Int))])) (.o 33 .stop .nil))))))))))))) (by kernel_rfl) rfl hn hR (.cons o11 .nil)
theorem zhh(n m o c i:Nat)(xs ys zs:List Nat)(h1:decide ((i:Int)<m)=true)(h2:decide ((i:Int)<n)=false)(a:ys.getD ((i:Int).toNat*1) 0<4294967296)(d:0<4294967296)(e:c≤1)(o1:(0:Int)≤i∧(i:Int)<m)(o2:(j6 ys)[(i:Int).toNat*1]?=some (.lit (.int .u32 ↑(ys.getD ((i:Int).toNat*1) 0))))(o6:(0:Int)≤i∧(i:Int)<o)(o7:0+(i:Int).toNat*1+1≤(own (j6 zs)).length)(o8:CvL (j4 (own (j6 zs)) (0+(i:Int).toNat*1) [.cv (.lit (.int .u32 (↑((ys.getD ((i:Int).toNat*1) 0+0+c)%4294967296):Int)))])){R:Goal}(hn:j9 R.n [0]=true)(hR:Ok P 239 (loopHead P 239 0) ⟨J3 54 [(0,.cv (.lst m (j6 ys))),(1,.cv (.lst n (j6 xs))),(5,.sl 0 0 o 1),(6,.cv (.lit (.int .u32 (↑((ys.getD ((i:Int).toNat*1) 0+0+c)/4294967296):Int)))),(21,.cv (.lst m (j6 ys))),(22,.cv (.lit (.int .i64 (m:Int)))),(23,.cv (.lit (.int .i64 (i64.wrap ((i:Int)+1)))))],[some (j4 (own (j6 zs)) (0+(i:Int).toNat*1) [.cv (.lit (.int .u32 (↑((ys.getD ((i:Int).toNat*1) 0+0+c)%4294967296):Int)))])]⟩ R):Ok P 239 (loopHead P 239 0) ⟨J3 54 [(0,.cv (.lst m (j6 ys))),(1,.cv (.lst n (j6 xs))),(5,.sl 0 0 o 1),(6,.cv (.lit (.int .u32 (c:Int)))),(21,.cv (.lst m (j6 ys))),(22,.cv (.lit (.int .i64 (m:Int)))),(23,.cv (.lit (.int .i64 (i:Int))))],[some (own (j6 zs))]⟩ R:=
 z16 (keep:=[0,1,5,6,21,22,23]) (σ:=[0]) (.b 2 h1 (.c o1 (.l 5 o2 (.c (eqn 1) (.b 13 h2 (.c (z0P (ys.getD ((i:Int).toNat*1) 0) 0 c a d e) (.c o6 (.c o7 (.o 19 (.r (.tup [.lit (.int .u32 (↑((ys.getD ((i:Int).toNat*1) 0+0+c)%4294967296):Int)),.lit (.int .u32 (↑((ys.getD ((i:Int).toNat*1) 0+0+c)/4294967296):Int))])) (.o 28 .stop .nil)))))))))) (by kernel_rfl) rfl hn hR (.cons o8 .nil)
theorem zho(n m o c i:Nat)(xs ys zs:List Nat)(h1:decide ((i:Int)<m)=false)(a:o=(zs.set (0+(m:Int).toNat*1) c).length)(d:Dig 4294967296 (zs.set (0+(m:Int).toNat*1) c))(e:(zs.set (0+(m:Int).toNat*1) c).length<2^62)(o1:(0:Int)≤m∧(m:Int)<o)(o2:0+(m:Int).toNat*1+1≤(own (j6 zs)).length)(o4:List.take (o*1) (List.drop 0 (j4 (own (j6 zs)) (0+(m:Int).toNat*1) [.cv (.lit (.int .u32 (c:Int)))]))=List.map MV.cv (j6 (zs.set (0+(m:Int).toNat*1) c))){R:Goal}(hR:R.c (.lst (dig 4294967296 (val 4294967296 (zs.set (0+(m:Int).toNat*1) c))).length (j6 (dig 4294967296 (val 4294967296 (zs.set (0+(m:Int).toNat*1) c)))))):Ok P 239 (loopHead P 239 0) ⟨J3 54 [(0,.cv (.lst m (j6 ys))),(1,.cv (.lst n (j6 xs))),(5,.sl 0 0 o 1),(6,.cv (.lit (.int .u32 (c:Int)))),(21,.cv (.lst m (j6 ys))),(22,.cv (.lit (.int .i64 (m:Int)))),(23,.cv (.lit (.int .i64 (i:Int))))],[some (own (j6 zs))]⟩ R:=
 okT (.b 2 h1 (.c o1 (.c o2 (.rs 10 [j6 (zs.set (0+(m:Int).toNat*1) c)] (z0a o (zs.set (0+(m:Int).toNat*1) c) a d e) (.c o4 .nil))))) (by kernel_rfl) hR
theorem zf7(n m o c i:Nat)(xs ys zs:List Nat)(h1:decide ((i:Int)<n)=true)(h2:decide ((i:Int)<m)=true)(a:xs.getD ((i:Int).toNat*1) 0<4294967296)(d:ys.getD ((i:Int).toNat*1) 0<4294967296)(e:c≤1)(o1:(0:Int)≤i∧(i:Int)<n)(o2:(j6 xs)[(i:Int).toNat*1]?=some (.lit (.int .u32 ↑(xs.getD ((i:Int).toNat*1) 0))))(o5:(0:Int)≤i∧(i:Int)<m)(o6:(j6 ys)[(i:Int).toNat*1]?=some (.lit (.int .u32 ↑(ys.getD ((i:Int).toNat*1) 0))))(o9:(0:Int)≤i∧(i:Int)<o)(o10:0+(i:Int).toNat*1+1≤(own (j6 zs)).length)(o11:CvL (j4 (own (j6 zs)) (0+(i:Int).toNat*1) [.cv (.lit (.int .u32 (↑((xs.getD ((i:Int).toNat*1) 0+8589934592-ys.getD ((i:Int).toNat*1) 0-c)%4294967296):Int)))])){R:Goal}(hn:j9 R.n [0]=true)(hR:Ok P 242 (loopHead P 242 0) ⟨J3 41 [(1,.cv (.lst m (j6 ys))),(5,.sl 0 0 o 1),(6,.cv (.lit (.int .u32 ↑(if xs.getD ((i:Int).toNat*1) 0<ys.getD ((i:Int).toNat*1) 0+c then(1:Nat)else(0:Nat))))),(13,.cv (.lst n (j6 xs))),(14,.cv (.lit (.int .i64 (n:Int)))),(15,.cv (.lit (.int .i64 (i64.wrap ((i:Int)+1)))))],[some (j4 (own (j6 zs)) (0+(i:Int).toNat*1) [.cv (.lit (.int .u32 (↑((xs.getD ((i:Int).toNat*1) 0+8589934592-ys.getD ((i:Int).toNat*1) 0-c)%4294967296):Int)))])]⟩ R):Ok P 242 (loopHead P 242 0) ⟨J3 41 [(1,.cv (.lst m (j6 ys))),(5,.sl 0 0 o 1),(6,.cv (.lit (.int .u32 (c:Int)))),(13,.cv (.lst n (j6 xs))),(14,.cv (.lit (.int .i64 (n:Int)))),(15,.cv (.lit (.int .i64 (i:Int))))],[some (own (j6 zs))]⟩ R:=
 z16 (keep:=[1,5,6,13,14,15]) (σ:=[0]) (.b 2 h1 (.c o1 (.l 5 o2 (.c (eqn 1) (.b 13 h2 (.c o5 (.l 17 o6 (.c (eqn 1) (.c (z3z (xs.getD ((i:Int).toNat*1) 0) (ys.getD ((i:Int).toNat*1) 0) c a d e) (.c o9 (.c o10 (.o 24 (.r (.tup [.lit (.int .u32 (↑((xs.getD ((i:Int).toNat*1) 0+8589934592-ys.getD ((i:Int).toNat*1) 0-c)%4294967296):Int)),.lit (.int .u32 ↑(if xs.getD ((i:Int).toNat*1) 0<ys.getD ((i:Int).toNat*1) 0+c then(1:Nat)else(0:Nat)))])) (.o 33 .stop .nil))))))))))))) (by kernel_rfl) rfl hn hR (.cons o11 .nil)
theorem zfF(n m o c i:Nat)(xs ys zs:List Nat)(h1:decide ((i:Int)<n)=true)(h2:decide ((i:Int)<m)=false)(a:xs.getD ((i:Int).toNat*1) 0<4294967296)(d:0<4294967296)(e:c≤1)(o1:(0:Int)≤i∧(i:Int)<n)(o2:(j6 xs)[(i:Int).toNat*1]?=some (.lit (.int .u32 ↑(xs.getD ((i:Int).toNat*1) 0))))(o6:(0:Int)≤i∧(i:Int)<o)(o7:0+(i:Int).toNat*1+1≤(own (j6 zs)).length)(o8:CvL (j4 (own (j6 zs)) (0+(i:Int).toNat*1) [.cv (.lit (.int .u32 (↑((xs.getD ((i:Int).toNat*1) 0+8589934592-0-c)%4294967296):Int)))])){R:Goal}(hn:j9 R.n [0]=true)(hR:Ok P 242 (loopHead P 242 0) ⟨J3 41 [(1,.cv (.lst m (j6 ys))),(5,.sl 0 0 o 1),(6,.cv (.lit (.int .u32 ↑(if xs.getD ((i:Int).toNat*1) 0<nat_lit 0+c then(1:Nat)else(0:Nat))))),(13,.cv (.lst n (j6 xs))),(14,.cv (.lit (.int .i64 (n:Int)))),(15,.cv (.lit (.int .i64 (i64.wrap ((i:Int)+1)))))],[some (j4 (own (j6 zs)) (0+(i:Int).toNat*1) [.cv (.lit (.int .u32 (↑((xs.getD ((i:Int).toNat*1) 0+8589934592-0-c)%4294967296):Int)))])]⟩ R):Ok P 242 (loopHead P 242 0) ⟨J3 41 [(1,.cv (.lst m (j6 ys))),(5,.sl 0 0 o 1),(6,.cv (.lit (.int .u32 (c:Int)))),(13,.cv (.lst n (j6 xs))),(14,.cv (.lit (.int .i64 (n:Int)))),(15,.cv (.lit (.int .i64 (i:Int))))],[some (own (j6 zs))]⟩ R:=
 z16 (keep:=[1,5,6,13,14,15]) (σ:=[0]) (.b 2 h1 (.c o1 (.l 5 o2 (.c (eqn 1) (.b 13 h2 (.c (z3z (xs.getD ((i:Int).toNat*1) 0) 0 c a d e) (.c o6 (.c o7 (.o 19 (.r (.tup [.lit (.int .u32 (↑((xs.getD ((i:Int).toNat*1) 0+8589934592-0-c)%4294967296):Int)),.lit (.int .u32 ↑(if xs.getD ((i:Int).toNat*1) 0<nat_lit 0+c then(1:Nat)else(0:Nat)))])) (.o 28 .stop .nil)))))))))) (by kernel_rfl) rfl hn hR (.cons o8 .nil)
theorem zeU(n m o c i:Nat)(xs ys zs:List Nat)(h1:decide ((i:Int)<n)=false)(a:o=zs.length)(d:Dig 4294967296 zs)(e:zs.length<2^62)(o2:List.take (o*1) (List.drop 0 (own (j6 zs)))=List.map MV.cv (j6 zs)){R:Goal}(hR:R.c (.lst (dig 4294967296 (val 4294967296 zs)).length (j6 (dig 4294967296 (val 4294967296 zs))))):Ok P 242 (loopHead P 242 0) ⟨J3 41 [(1,.cv (.lst m (j6 ys))),(5,.sl 0 0 o 1),(6,.cv (.lit (.int .u32 (c:Int)))),(13,.cv (.lst n (j6 xs))),(14,.cv (.lit (.int .i64 (n:Int)))),(15,.cv (.lit (.int .i64 (i:Int))))],[some (own (j6 zs))]⟩ R:=
 okT (.b 2 h1 (.rs 4 [j6 zs] (z0a o zs a d e) (.c o2 .nil))) (by kernel_rfl) hR
theorem zcQ(n o d c:Nat)(i:Int)(xs zs:List Nat)(h1:decide (i≥0)=true)(a:c<d)(e:xs.getD (i.toNat*1) 0<4294967296)(f:d<4294967296)(o1:(0:Int)≤i∧i<(n:Int))(o2:(j6 xs)[i.toNat*1]?=some (.lit (.int .u32 ↑(xs.getD (i.toNat*1) 0))))(o5:(0:Int)≤i∧i<(o:Int))(o6:0+i.toNat*1+1≤(own (j6 zs)).length)(o7:CvL (j4 (own (j6 zs)) (0+i.toNat*1) [.cv (.lit (.int .u32 ↑((c*4294967296+xs.getD (i.toNat*1) 0)/d)))])){R:Goal}(hn:j9 R.n [0]=true)(hR:Ok P 261 (loopHead P 261 0) ⟨J3 35 [(0,.cv (.lst n (j6 xs))),(1,.cv (.lit (.int .u32 (d:Int)))),(6,.sl 0 0 o 1),(7,.cv (.lit (.int .u32 ↑((c*4294967296+xs.getD (i.toNat*1) 0)%d)))),(8,.cv (.lit (.int .i64 (i64.wrap (i-1)))))],[some (j4 (own (j6 zs)) (0+i.toNat*1) [.cv (.lit (.int .u32 ↑((c*4294967296+xs.getD (i.toNat*1) 0)/d)))])]⟩ R):Ok P 261 (loopHead P 261 0) ⟨J3 35 [(0,.cv (.lst n (j6 xs))),(1,.cv (.lit (.int .u32 (d:Int)))),(6,.sl 0 0 o 1),(7,.cv (.lit (.int .u32 (c:Int)))),(8,.cv (.lit (.int .i64 i)))],[some (own (j6 zs))]⟩ R:=
 z16 (keep:=[0,1,6,7,8]) (σ:=[0]) (.b 3 h1 (.c o1 (.l 10 o2 (.c (eqn 1) (.c (zaa c (xs.getD (i.toNat*1) 0) d a e f) (.c o5 (.c o6 (.o 12 (.r (.tup [.lit (.int .u32 ↑((c*4294967296+xs.getD (i.toNat*1) 0)/d)),.lit (.int .u32 ↑((c*4294967296+xs.getD (i.toNat*1) 0)%d))])) (.o 22 .stop .nil))))))))) (by kernel_rfl) rfl hn hR (.cons o7 .nil)
theorem zb5(n o d c:Nat)(i:Int)(xs zs:List Nat)(h1:decide (i≥0)=false)(a:o=zs.length)(e:Dig 4294967296 zs)(f:zs.length<2^62)(o2:List.take (o*1) (List.drop 0 (own (j6 zs)))=List.map MV.cv (j6 zs)){R:Goal}(hR:R.c (.tup [.lst (dig 4294967296 (val 4294967296 zs)).length (j6 (dig 4294967296 (val 4294967296 zs))),.lit (.int .u32 (c:Int))])):Ok P 261 (loopHead P 261 0) ⟨J3 35 [(0,.cv (.lst n (j6 xs))),(1,.cv (.lit (.int .u32 (d:Int)))),(6,.sl 0 0 o 1),(7,.cv (.lit (.int .u32 (c:Int)))),(8,.cv (.lit (.int .i64 i)))],[some (own (j6 zs))]⟩ R:=
 okT (.b 3 h1 (.rs 5 [j6 zs] (z0a o zs a e f) (.c o2 .nil))) (by kernel_rfl) hR
theorem z9O(n:Nat)(i:Int)(v:Nat)(xs:List Nat)(h1:decide (i≥0)=true)(o2:(0:Int)≤i∧i<(n:Int))(o3:(j6 xs)[i.toNat*1]?=some (.lit (.int .u32 ↑(xs.getD (i.toNat*1) 0)))){R:Goal}(hn:j9 R.n []=true)(hR:Ok P 259 (loopHead P 259 0) ⟨J3 21 [(0,.cv (.lst n (j6 xs))),(3,.cv (.lit (.int .u64 (X5 BinOp.or u64 (u64.wrap ((v:Int)*4294967296)) (u64.wrap (↑(xs.getD (i.toNat*1) 0):Int)))))),(4,.cv (.lit (.int .i64 (i64.wrap (i-1)))))],[]⟩ R):Ok P 259 (loopHead P 259 0) ⟨J3 21 [(0,.cv (.lst n (j6 xs))),(3,.cv (.lit (.int .u64 (v:Int)))),(4,.cv (.lit (.int .i64 i)))],[]⟩ R:=
 z16 (keep:=[0,3,4]) (σ:=[]) (.b 3 h1 (.c (nn 32) (.c o2 (.l 9 o3 (.c (eqn 1) (.o 16 .stop .nil)))))) (by kernel_rfl) rfl hn hR .nil
theorem zap(n:Nat)(i:Int)(v:Nat)(xs:List Nat)(h1:decide (i≥0)=false){R:Goal}(hR:R.c (.lit (.int .u64 (v:Int)))):Ok P 259 (loopHead P 259 0) ⟨J3 21 [(0,.cv (.lst n (j6 xs))),(3,.cv (.lit (.int .u64 (v:Int)))),(4,.cv (.lit (.int .i64 i)))],[]⟩ R:=
 okT (.b 3 h1 .nil) (by kernel_rfl) hR
theorem Z7{xs:List Nat}{i:Nat}(h:i<xs.length):(j6 xs)[i]?=some (CV.lit (.int .u32 (xs.getD i 0:Nat))):=z6o h
theorem z0K {b : Nat} {xs ys : List Nat} (hx : Dig b xs) (hb : 0 < b) {k : Nat} (hk : k < xs.length) (hl : xs.length = ys.length)
    (ht:xs.drop (k+1)=ys.drop (k+1)) (h:xs.getD k 0<ys.getD k 0):val b xs<val b ys:=by
 have e1:=z0G (b:=b) xs k (by omega)
 have e2:=z0G (b:=b) ys k (by omega)
 have e3:=z14 (b:=b) hk
 have e4:=z14 (b:=b) (xs:=ys) (i:=k) (by omega)
 have hlt:=z0s hb _ (hx.take k)
 rw[List.length_take,Nat.min_eq_left (by omega)]at hlt
 rw[e1,e2,e3,e4,ht]
 generalize val b (ys.drop (k+1))=t at*
 have:b^k*(xs.getD k 0+1+b*t)≤b^k*(ys.getD k 0+b*t):=Nat.mul_le_mul_left _ (by omega)
 rw[show xs.getD k 0+1+b*t=(xs.getD k 0+b*t)+1 by omega,Nat.mul_add,Nat.mul_one]at this
 omega
def zai(a b:Nat)(la lb:Nat):Int:=if la≠lb then(la:Int)-lb else if a<b then-1 else if a=b then 0 else 1
theorem zf2 {R : Goal} (hn : j9 R.n [] = true) (xs ys : List Nat) (hl : xs.length = ys.length) (hlen : xs.length < 2 ^ 62) (hx : Dig B32 xs) (hy : Dig B32 ys)
    (hR:R.c (j7 (if val B32 xs<val B32 ys then-1 else if val B32 xs=val B32 ys then 0 else 1))):
    ∀k:Nat,k≤xs.length→xs.drop k=ys.drop k→
     Ok P 241 (loopHead P 241 0) ⟨J3 43 [(0,.cv (.lst xs.length (j6 xs))),(1,.cv (.lst ys.length (j6 ys))),(5,.cv (.lit (.int .i64 ((k:Int)-1))))],[]⟩ R:=by
 intro k
 induction k with
 |zero=>
  intro _ hd
  simp only[List.drop_zero]at hd
  refine zhS _ _ _ _ _ (by simp) ?_
  rw[hd,if_neg (Nat.lt_irrefl _),if_pos rfl]at hR
  exact hR
 |succ k ih=>
  intro hk hd
  have e0:((k+1:Nat):Int)-1=(k:Int):=by omega
  have e1:(k:Int).toNat*1=k:=by omega
  have gx:=Z7 (xs:=xs) (i:=k) (by omega)
  have gy:=Z7 (xs:=ys) (i:=k) (by omega)
  rw[e0]
  by_cases h1:xs.getD k 0<ys.getD k 0
  · have:=z0K hx (by decide) (by omega) hl hd h1
    rw[if_pos this]at hR
    exact ziy _ _ _ _ _ (by simp) (by rw[e1];simpa using h1) (by omega) (by rw[e1];exact gx) (by omega) (by rw[e1];exact gy) hR
  · by_cases h2:ys.getD k 0<xs.getD k 0
    · have:=z0K hy (by decide) (by omega) hl.symm hd.symm h2
      rw[if_neg (by omega),if_neg (by omega)]at hR
      exact zhF _ _ _ _ _ (by simp) (by rw[e1];simpa using h1) (by rw[e1];simpa using h2) (by omega) (by rw[e1];exact gx) (by omega) (by rw[e1];exact gy) (by omega) (by rw[e1];exact gx) (by omega) (by rw[e1];exact gy) hR
    · refine ziN _ _ _ _ _ (by simp) (by rw[e1];simpa using h1) (by rw[e1];simpa using h2) (by omega) (by rw[e1];exact gx) (by omega) (by rw[e1];exact gy) (by omega) (by rw[e1];exact gx) (by omega) (by rw[e1];exact gy) hn ?_
      rw[w64 (by omega)]
      refine ih (by omega) ?_
      have a1:k<xs.length:=by omega
      have a2:k<ys.length:=by omega
      rw[List.drop_eq_getElem_cons a1,List.drop_eq_getElem_cons a2,hd]
      have:xs.getD k 0=ys.getD k 0:=by omega
      simp only[List.getD_eq_getElem?_getD,List.getElem?_eq_getElem a1,List.getElem?_eq_getElem a2,Option.getD_some]at this
      rw[this]
theorem z35(a b:Nat)(ha:(dig B32 a).length<2^62)(hb:(dig B32 b).length<2^62):PCall P 241 [z07 a,z07 b] (j7 (zai a b (dig B32 a).length (dig B32 b).length)):=by
 have w:i64.wrap (((dig B32 a).length:Int)-(dig B32 b).length)=((dig B32 a).length:Int)-(dig B32 b).length:=w64 (by omega)
 by_cases h:(dig B32 a).length=(dig B32 b).length
 · refine zjp _ _ _ _ (by simp[h]) ?_
   rw[w64 (by omega)]
   refine zf2 (R:= .of _) rfl _ _ h ha (W1 (by decide) _) (W1 (by decide) _) ?_ _ (Nat.le_refl _) (by rw[List.drop_length,h,List.drop_length])
   rw[Q5 (by decide),Q5 (by decide),zai,if_neg (by simpa using h)]
   rfl
 · refine(zjE _ _ _ _ (by simp;omega)).eq ?_
   rw[w,zai,if_pos h]
theorem z9C{a b:Nat}:zai a b (dig B32 a).length (dig B32 b).length<0↔a<b:=by
 have h1:=Q2 (by decide:2≤B32) a
 have h2:=Q2 (by decide:2≤B32) b
 have key: ∀x y:Nat,(dig B32 x).length<(dig B32 y).length→x<y:=by
  intro x y h
  rcases Nat.lt_or_ge x y with h'|h'
  · exact h'
  · have:=Z5 (by decide:2≤B32) (n:=y) (k:=(dig B32 x).length) (Nat.lt_of_le_of_lt h' (Q2 (by decide) x))
    omega
 unfold zai
 split
 · rename_i h
   constructor
   · intro h3;exact key a b (by omega)
   · intro h3
     rcases Nat.lt_or_gt_of_ne h with h4|h4
     · omega
     · have:=key b a h4;omega
 · split
   · rename_i h;simp[h]
   · rename_i h
     split<;>simp[h]
theorem z9a(bs:List Nat):z1D bs=z1g bs.reverse:=by simp[z1D,z1g]
theorem z7o{bs:List Nat}(h:Dig 256 bs):J5 (z1D bs)=val 256 bs.reverse:=by
 rw[z9a,z44 (fun x hx=>h x (by simpa using hx))]
theorem zdK {R : Goal} (_hn : j9 R.n [0] = true) (hn2 : j9 R.n [2] = true) (xs : List Nat) (hl : xs.length < 2 ^ 36) (hx : Dig B32 xs) (hR : R.c (X2 (bytesOf (val B32 xs)))) :
    ∀(k:Nat) (bs:List Nat),k≤xs.length→bs.length=4*(xs.length-k)→Dig 256 bs→val 256 bs.reverse=val B32 (xs.drop k)→
     Ok P 256 (loopHead P 256 0) ⟨J3 45 [(0,.cv (.lst xs.length (j6 xs))),(3,.sl 0 0 (4*(xs.length-k)) 1),(4,.cv (.lit (.int .i64 ((k:Int)-1))))],[some (own (u8s bs))]⟩ R:=by
 intro k
 induction k with
 |zero=>
  intro bs _ hb hd hv
  refine zj3 _ _ _ _ _ (by simp) ?_ (by rw[z3Z,hb]) ?_
  · rw[List.drop_zero,List.take_of_length_le (by rw[J4,z5N,hb];exact Nat.le_refl _)]
    have:=z54 hd
    simpa[z1D]using this
  · rw[z7o hd,hv,List.drop_zero];exact hR
 |succ k ih=>
  intro bs hk hb hd hv
  have e0:((k+1:Nat):Int)-1=(k:Int):=by omega
  have e1:(k:Int).toNat*1=k:=by omega
  have gx:=Z7 (xs:=xs) (i:=k) (by omega)
  have dx:=hx.get (by decide) k
  have hdr:=z5q (b:=B32) xs k
  rw[e0]
  have q1: ∀d:Nat,u8.wrap ((d:Int).fdiv 16777216)=((d/16777216%256:Nat):Int):=by intro d;rw[fdp _ (by decide),wr8];omega
  have q2: ∀d:Nat,u8.wrap ((d:Int).fdiv 65536)=((d/65536%256:Nat):Int):=by intro d;rw[fdp _ (by decide),wr8];omega
  have q3: ∀d:Nat,u8.wrap ((d:Int).fdiv 256)=((d/256%256:Nat):Int):=by intro d;rw[fdp _ (by decide),wr8];omega
  have q4: ∀d:Nat,u8.wrap (d:Int)=((d%256:Nat):Int):=by intro d;rw[wr8];omega
  have hcells: ∀a b c d:Nat,own (u8s bs)++[MV.cv (CV.lit (.int .u8 (a:Int))),MV.cv (CV.lit (.int .u8 (b:Int))),MV.cv (CV.lit (.int .u8 (c:Int))),MV.cv (CV.lit (.int .u8 (d:Int)))]=own (u8s (bs++[a,b,c,d])):=by
   intro a b c d;simp[own,u8s]
  have hone : z98 [MV.cv (CV.lit (.int .u8 (u8.wrap (((xs.getD ((k : Int).toNat * 1) 0 : Nat) : Int).fdiv 16777216)))), MV.cv (CV.lit (.int .u8 (u8.wrap (((xs.getD ((k : Int).toNat * 1) 0 : Nat) : Int).fdiv 65536)))),
      MV.cv (CV.lit (.int .u8 (u8.wrap (((xs.getD ((k:Int).toNat*1) 0:Nat):Int).fdiv 256)))),MV.cv (CV.lit (.int .u8 (u8.wrap ((xs.getD ((k:Int).toNat*1) 0:Nat):Int))))]:=by
   intro m hm
   simp only[List.mem_cons,List.not_mem_nil,or_false]at hm
   rcases hm with rfl|rfl|rfl|rfl<;>rfl
  refine ziC _ _ _ _ _ (by simp) (by omega) (by rw[e1];exact gx) (by omega) (by rw[e1];exact gx) (by omega) (by rw[e1];exact gx) (by omega) (by rw[e1];exact gx) (by omega) (by omega) (by rw[J4,z5N,hb];omega) hone ?_ hn2 ?_
  · rw[e1,q1,q2,q3,q4,hcells];exact J0 _
  · rw[e1,q1,q2,q3,q4,hcells,w64 (by omega)]
    have hb':(bs++[xs.getD k 0/16777216%256,xs.getD k 0/65536%256,xs.getD k 0/256%256,xs.getD k 0%256]).length=4*(xs.length-k):=by simp[hb];omega
    have:=ih (bs++[xs.getD k 0/16777216%256,xs.getD k 0/65536%256,xs.getD k 0/256%256,xs.getD k 0%256]) (by omega) hb' ?_ ?_
    · rw[show 4*(xs.length-(k+1))+4=4*(xs.length-k) by omega];exact this
    · refine hd.append ?_
      intro x hx'
      simp only[List.mem_cons,List.not_mem_nil,or_false]at hx'
      omega
    · rw[hdr,←hv]
      simp only[List.reverse_append,List.reverse_cons,List.reverse_nil,List.nil_append,List.cons_append,val]
      generalize val 256 bs.reverse=t at*
      simp only[B32]at*
      omega
theorem z9h(a:Nat)(ha:(dig B32 a).length<2^36):PCall P 256 [z07 a] (X2 (bytesOf a)):=by
 have e1:i64.wrap (4*((dig B32 a).length:Int))=((4*(dig B32 a).length:Nat):Int):=by rw[w64 (by omega)];omega
 refine zgE _ _ (by rw[e1];omega) (by rw[z6C];exact J0 _) ?_
 rw[z6C,w64 (n:=((dig B32 a).length:Int)-1) (by omega)]
 have:=zdK (R:= .of (fun x=>x=X2 (bytesOf a))) rfl rfl (dig B32 a) ha (W1 (by decide) _) (by rw[Q5 (by decide)];rfl) _ [] (Nat.le_refl _) (by simp) (by intro x hx;simp at hx) (by rw[List.drop_length];rfl)
 rw[Nat.sub_self]at this
 refine Ok.shorten 0 0 rfl ?_
 exact this
theorem ze5(a:Nat)(b:Bool)(h1:(b)=true)(d:(dig 4294967296 a).length<2^36):PCall P (240:FuncId) [z07 a,CV.lit (Value.bool b)] (CV.agg [CV.lit (Value.bool !(bytesOf a).toList==[]),CV.lit (Value.string (bytesOf a))]):=
 j5 (.r 2 (z9h a d) (.b 5 h1 (.c (show 2≤2 from(by decide)) .nil))) (by kernel_rfl)
theorem ze8(a:Nat)(b:Bool)(h1:(b)=false)(d:(dig 4294967296 a).length<2^36):PCall P (240:FuncId) [z07 a,CV.lit (Value.bool b)] (CV.agg [CV.lit (Value.bool false),CV.lit (Value.string (bytesOf a))]):=
 j5 (.r 2 (z9h a d) (.b 5 h1 (.c (show 2≤2 from(by decide)) .nil))) (by kernel_rfl)
theorem zdG(n:Int)(a:(0:Int)≤u32.wrap n)(d:u32.wrap n<(4294967296:Int))(e:(0:Int)≤u32.wrap (n.fdiv (4294967296:Int)))(f:u32.wrap (n.fdiv (4294967296:Int))<(4294967296:Int))(o2:[MV.cv (CV.lit (Value.int u32 (u32.wrap n))),MV.cv (CV.lit (Value.int u32 (u32.wrap (n.fdiv (4294967296:Int)))))]=[MV.cv (CV.lit (Value.int u32 (u32.wrap n))),MV.cv (CV.lit (Value.int u32 (u32.wrap (n.fdiv (4294967296:Int)))))]):PCall P (245:FuncId) [CV.lit (Value.int u64 n)] (CV.lst (dig 4294967296 (u32.wrap n+(4294967296:Int)*u32.wrap (n.fdiv (4294967296:Int))).toNat).length (j6 (dig 4294967296 (u32.wrap n+(4294967296:Int)*u32.wrap (n.fdiv (4294967296:Int))).toNat))):=
 j5 (.c (show(0:Int)≤(32:Int)from(by decide)) (.rs 7 [[CV.lit (Value.int u32 (u32.wrap n)),CV.lit (Value.int u32 (u32.wrap (n.fdiv (4294967296:Int))))]] (za9 (u32.wrap n) (u32.wrap (n.fdiv (4294967296:Int))) a d e f) (.c o2 .nil))) (by kernel_rfl)
def J7(z:Int):CV:= .agg [.lit (.bool (decide (z<0))),.lit (.string (bytesOf z.natAbs))]
def sgn(b:Bool)(n:Nat):Int:=if b then-(n:Int)else n
theorem Z9(n:Nat):((bytesOf n).toList==[])=decide (n=0):=by
 rw[X3]
 simp only[V5]
theorem zcA(a:Nat)(b:Bool)(ha:(dig B32 a).length<2^36):PCall P 240 [z07 a,.lit (.bool b)] (J7 (sgn b a)):=by
 cases b with
 |true=>
  refine(ze5 a true rfl ha).eq ?_
  rw[Z9,J7,sgn]
  simp only[if_true,Int.natAbs_neg,Int.natAbs_natCast]
  congr 4
  by_cases h:a=0
  · subst h;rfl
  · simp[h];omega
 |false=>
  refine(ze8 a false rfl ha).eq ?_
  rw[J7,sgn]
  simp
theorem zcR(n:Nat)(hn:n<18446744073709551616):PCall P 245 [.lit (.int .u64 (n:Int))] (z07 n):=by
 have e1:u32.wrap (n:Int)=((n%4294967296:Nat):Int):=by rw[z6V];omega
 have e2:u32.wrap ((n:Int).fdiv 4294967296)=((n/4294967296:Nat):Int):=by rw[fdp _ (by decide),z6V];omega
 have:=zdG n (by rw[e1];omega) (by rw[e1];omega) (by rw[e2];omega) (by rw[e2];omega) rfl
 rw[e1,e2,show(((n%4294967296:Nat):Int)+4294967296*((n/4294967296:Nat):Int)).toNat=n by omega]at this
 exact this
def Sml(n:Nat):Prop:=(dig 256 n).length<1073741824
theorem Sml.of_lt{n k:Nat}(h:n<256^k)(hk:k<1073741824):Sml n:=Nat.lt_of_le_of_lt (Z5 (by decide) h) hk
theorem Sml.lt{n:Nat}(h:Sml n): ∃k,k<1073741824∧n<256^k:=⟨_,h,Q2 (by decide) n⟩
theorem Sml.mono{m n:Nat}(h:Sml n)(hm:m≤n):Sml m:=Nat.lt_of_le_of_lt (dig_length_mono' hm) h
 where dig_length_mono' {m n:Nat} (h:m≤n):(dig 256 m).length≤(dig 256 n).length:=Z5 (by decide) (Nat.lt_of_le_of_lt h (Q2 (by decide) n))
theorem Sml.dig32{n:Nat}(h:Sml n):(dig B32 n).length<2^30:=by
 have:n<B32^(dig 256 n).length:=Nat.lt_of_lt_of_le (Q2 (by decide:2≤256) n) (Nat.pow_le_pow_left (by decide) _)
 exact Nat.lt_of_le_of_lt (Z5 (by decide) this) h
theorem Sml.size{n:Nat}(h:Sml n):(bytesOf n).size<2^30:=by rw[z1a];exact h
theorem z1R{n:Nat}(h:n≠0):((bytesOf n).data.getD 0 0).toNat≠0:=by
 have hne:dig 256 n≠[]:=by rw[Ne,z3V (by decide)];exact h
 have hc:=X9 hne
 have ht:=zg0 (by decide:2≤256) n
 have hlt:=(W1 (by decide:2≤256) n).get (by decide) ((dig 256 n).length-1)
 rw[bytesOf,hc,z2I]
 intro e
 have e0:(dig 256 n).getD ((dig 256 n).length-1) 0=0:=by
  simp only[UInt8.toNat_ofNat']at e;omega
 rw[e0]at hc
 rw[hc,Y1]at ht
 have h1:=congrArg List.length ht
 have: ∀l:List Nat,(tz l).length≤l.length:=by
  intro l
  induction l with
  |nil=>simp[tz]
  |cons x l ih=>rw[z2R];split<;>(try split)<;>simp;omega
 have h2:=this ((dig 256 n).take ((dig 256 n).length-1))
 simp at h1 h2
 omega
theorem Q3(z:Int):PCall P 214 [J7 z] (.lit (.bool true)):=by
 refine(Y4 _ _).eq ?_
 rw[J1]
 by_cases h:z=0
 · subst h;rfl
 · have:(bytesOf z.natAbs).size≠0:=by rw[Ne,V5];omega
   rw[if_neg this]
   have:=z1R (n:=z.natAbs) (by omega)
   rw[decide_eq_true this]
theorem z0b(n:Nat)(h:Sml n):PCall P 238 [X2 (bytesOf n)] (z07 n):=by
 have:=z0H (bytesOf n) (by have:=h.size;omega)
 rw[U6]at this
 exact this
theorem z0q(a:Nat)(b:Bool)(ha:Sml a):PCall P 240 [z07 a,.lit (.bool b)] (J7 (sgn b a)):=zcA a b (by have:=ha.dig32;omega)
theorem z6m(n:Int)(h0:0≤n)(h1:n<18446744073709551616):PCall P 245 [.lit (.int .u64 n)] (z07 n.toNat):=by
 have:=zcR n.toNat (by omega)
 rw[show((n.toNat:Nat):Int)=n by omega]at this
 exact this
end Go.Fw
