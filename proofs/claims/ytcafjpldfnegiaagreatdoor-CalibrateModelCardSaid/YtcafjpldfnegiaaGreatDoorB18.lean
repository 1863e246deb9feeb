/- A part of the proof that the law returns true for every input: an executor for the model's code, and what functions of the program compute. -/
import Derived.Test.YtcafjpldfnegiaaGreatDoorB11
import Derived.Test.YtcafjpldfnegiaaGreatDoorB15
import Derived.Test.YtcafjpldfnegiaaGreatDoorB17
import Derived.KernelRfl
open Go IntKind
namespace Go.Fw
set_option maxRecDepth 100000
theorem zj0(n:Nat)(xs:List Nat)(o0:(0:Int)≤0∧(0:Int)≤i64.wrap ((4:Int)*n)∧(1:Int)*i64.wrap ((4:Int)*n)≤140737488355328∧i64.wrap ((4:Int)*n)≤4611686018427387904∧1=1)(o1:CvL (List.replicate ((i64.wrap ((4:Int)*n)).toNat*1) (.cv (.lit (.int .u8 0))))){R:CV→Prop}(hR:Ok P 256 (loopHead P 256 0) ⟨J1 45 [(0,.cv (.lst n (j8 xs))),(3,.sl 0 0 0 1),(4,.cv (.lit (.int .i64 (i64.wrap ((n:Int)-1)))))],[some (List.replicate ((i64.wrap ((4:Int)*n)).toNat*1) (.cv (.lit (.int .u8 0))))]⟩ (.of R)):Y3 P 256 [.lst n (j8 xs)] R:=
 Z6 (keep:=[0,3,4]) (σ:=[0]) (.c o0 (.o 10 .stop .nil)) (by kernel_rfl) rfl hR (.cons o1 .nil)
theorem ziG(n m:Nat)(xs ys:List Nat)(h1:((n:Int) != (m:Int))=true):PCall P 241 [.lst n (j8 xs),.lst m (j8 ys)] (.lit (.int .i64 (i64.wrap ((n:Int)-m)))):=
 j3 (.b 6 h1 .nil) (by kernel_rfl)
theorem zmw(n m:Nat)(xs ys:List Nat)(h1:((n:Int) != (m:Int))=false){R:CV→Prop}(hR:Ok P 241 (loopHead P 241 0) ⟨J1 43 [(0,.cv (.lst n (j8 xs))),(1,.cv (.lst m (j8 ys))),(5,.cv (.lit (.int .i64 (i64.wrap ((n:Int)-1)))))],[]⟩ (.of R)):Y3 P 241 [.lst n (j8 xs),.lst m (j8 ys)] R:=
 Z6 (keep:=[0,1,5]) (σ:=[]) (.b 6 h1 (.o 11 .stop .nil)) (by kernel_rfl) rfl hR .nil
theorem zkK(n m:Nat)(xs ys:List Nat)(h1:decide ((n:Int)<m)=true)(o1:(0:Int)≤i64.wrap ((m:Int)+1)∧i64.wrap ((m:Int)+1)≤i64.wrap ((m:Int)+1)∧(4:Int)*i64.wrap ((m:Int)+1)≤140737488355328∧i64.wrap ((m:Int)+1)≤4611686018427387904∧1=1)(o2:CvL (List.replicate ((i64.wrap ((m:Int)+1)).toNat*1) (.cv (.lit (.int .u32 0))))){R:CV→Prop}(hR:Ok P 239 (loopHead P 239 0) ⟨J1 54 [(0,.cv (.lst m (j8 ys))),(1,.cv (.lst n (j8 xs))),(5,.sl 0 0 (i64.wrap ((m:Int)+1)).toNat 1),(6,.cv (.lit (.int .u32 0))),(21,.cv (.lst m (j8 ys))),(22,.cv (.lit (.int .i64 (m:Int)))),(23,.cv (.lit (.int .i64 0)))],[some (List.replicate ((i64.wrap ((m:Int)+1)).toNat*1) (.cv (.lit (.int .u32 0))))]⟩ (.of R)):Y3 P 239 [.lst n (j8 xs),.lst m (j8 ys)] R:=
 Z6 (keep:=[0,1,5,6,21,22,23]) (σ:=[0]) (.b 6 h1 (.c o1 (.o 20 .stop .nil))) (by kernel_rfl) rfl hR (.cons o2 .nil)
theorem zlu(n m:Nat)(xs ys:List Nat)(h1:decide ((n:Int)<m)=false)(o1:(0:Int)≤i64.wrap ((n:Int)+1)∧i64.wrap ((n:Int)+1)≤i64.wrap ((n:Int)+1)∧(4:Int)*i64.wrap ((n:Int)+1)≤140737488355328∧i64.wrap ((n:Int)+1)≤4611686018427387904∧1=1)(o2:CvL (List.replicate ((i64.wrap ((n:Int)+1)).toNat*1) (.cv (.lit (.int .u32 0))))){R:CV→Prop}(hR:Ok P 239 (loopHead P 239 0) ⟨J1 54 [(0,.cv (.lst n (j8 xs))),(1,.cv (.lst m (j8 ys))),(5,.sl 0 0 (i64.wrap ((n:Int)+1)).toNat 1),(6,.cv (.lit (.int .u32 0))),(21,.cv (.lst n (j8 xs))),(22,.cv (.lit (.int .i64 (n:Int)))),(23,.cv (.lit (.int .i64 0)))],[some (List.replicate ((i64.wrap ((n:Int)+1)).toNat*1) (.cv (.lit (.int .u32 0))))]⟩ (.of R)):Y3 P 239 [.lst n (j8 xs),.lst m (j8 ys)] R:=
 Z6 (keep:=[0,1,5,6,21,22,23]) (σ:=[0]) (.b 6 h1 (.c o1 (.o 16 .stop .nil))) (by kernel_rfl) rfl hR (.cons o2 .nil)
theorem zgV(n m:Nat)(xs ys:List Nat)(o0:(0:Int)≤n∧(n:Int)≤n∧(4:Int)*n≤140737488355328∧(n:Int)≤4611686018427387904∧1=1)(o1:CvL (List.replicate ((n:Int).toNat*1) (.cv (.lit (.int .u32 0))))){R:CV→Prop}(hR:Ok P 242 (loopHead P 242 0) ⟨J1 41 [(1,.cv (.lst m (j8 ys))),(5,.sl 0 0 (n:Int).toNat 1),(6,.cv (.lit (.int .u32 0))),(13,.cv (.lst n (j8 xs))),(14,.cv (.lit (.int .i64 (n:Int)))),(15,.cv (.lit (.int .i64 0)))],[some (List.replicate ((n:Int).toNat*1) (.cv (.lit (.int .u32 0))))]⟩ (.of R)):Y3 P 242 [.lst n (j8 xs),.lst m (j8 ys)] R:=
 Z6 (keep:=[1,5,6,13,14,15]) (σ:=[0]) (.c o0 (.o 9 .stop .nil)) (by kernel_rfl) rfl hR (.cons o1 .nil)
theorem zdz(n:Nat)(d:Int)(xs:List Nat)(o0:(0:Int)≤n∧(n:Int)≤n∧(4:Int)*n≤140737488355328∧(n:Int)≤4611686018427387904∧1=1)(o1:CvL (List.replicate ((n:Int).toNat*1) (.cv (.lit (.int .u32 0))))){R:CV→Prop}(hR:Ok P 261 (loopHead P 261 0) ⟨J1 35 [(0,.cv (.lst n (j8 xs))),(1,.cv (.lit (.int .u32 d))),(6,.sl 0 0 (n:Int).toNat 1),(7,.cv (.lit (.int .u32 0))),(8,.cv (.lit (.int .i64 (i64.wrap ((n:Int)-1)))))],[some (List.replicate ((n:Int).toNat*1) (.cv (.lit (.int .u32 0))))]⟩ (.of R)):Y3 P 261 [.lst n (j8 xs),.lit (.int .u32 d)] R:=
 Z6 (keep:=[0,1,6,7,8]) (σ:=[0]) (.c o0 (.o 11 .stop .nil)) (by kernel_rfl) rfl hR (.cons o1 .nil)
theorem zcb(n:Nat)(xs:List Nat){R:CV→Prop}(hR:Ok P 259 (loopHead P 259 0) ⟨J1 21 [(0,.cv (.lst n (j8 xs))),(3,.cv (.lit (.int .u64 0))),(4,.cv (.lit (.int .i64 (i64.wrap ((n:Int)-1)))))],[]⟩ (.of R)):Y3 P 259 [.lst n (j8 xs)] R:=
 Z6 (keep:=[0,3,4]) (σ:=[]) (.o 6 .stop .nil) (by kernel_rfl) rfl hR .nil
theorem zmR(n m:Nat)(xs ys:List Nat)(o0:(0:Int)≤i64.wrap (i64.wrap ((n:Int)+m)+1)∧i64.wrap (i64.wrap ((n:Int)+m)+1)≤i64.wrap (i64.wrap ((n:Int)+m)+1)∧(4:Int)*i64.wrap (i64.wrap ((n:Int)+m)+1)≤140737488355328∧i64.wrap (i64.wrap ((n:Int)+m)+1)≤4611686018427387904∧1=1)(o1:CvL (List.replicate ((i64.wrap (i64.wrap ((n:Int)+m)+1)).toNat*1) (.cv (.lit (.int .u32 0))))){R:CV→Prop}(hR:Ok P 243 (loopHead P 243 0) ⟨J1 45 [(1,.cv (.lst m (j8 ys))),(5,.sl 0 0 (i64.wrap (i64.wrap ((n:Int)+m)+1)).toNat 1),(6,MV.fn 258 [.sl 0 0 (i64.wrap (i64.wrap ((n:Int)+m)+1)).toNat 1] []),(20,.cv (.lst n (j8 xs))),(21,.cv (.lit (.int .i64 (n:Int)))),(22,.cv (.lit (.int .i64 0)))],[some (List.replicate ((i64.wrap (i64.wrap ((n:Int)+m)+1)).toNat*1) (.cv (.lit (.int .u32 0))))]⟩ (.of R)):Y3 P 243 [.lst n (j8 xs),.lst m (j8 ys)] R:=
 Z6 (keep:=[1,5,6,20,21,22]) (σ:=[0]) (.c o0 (.o 15 .stop .nil)) (by kernel_rfl) rfl hR (.cons o1 .nil)
theorem zm2(n l:Nat)(i:Int)(xs bs:List Nat)(h1:decide (i≥0)=true)(o1:(0:Int)≤i∧i<(n:Int))(o2:(j8 xs)[i.toNat*1]?=some (.lit (.int .u32 ↑(xs.getD (i.toNat*1) 0))))(o5:(0:Int)≤i∧i<(n:Int))(o6:(j8 xs)[i.toNat*1]?=some (.lit (.int .u32 ↑(xs.getD (i.toNat*1) 0))))(o9:(0:Int)≤i∧i<(n:Int))(o10:(j8 xs)[i.toNat*1]?=some (.lit (.int .u32 ↑(xs.getD (i.toNat*1) 0))))(o13:(0:Int)≤i∧i<(n:Int))(o14:(j8 xs)[i.toNat*1]?=some (.lit (.int .u32 ↑(xs.getD (i.toNat*1) 0))))(o16:(l+4)*1≤1099511627776)(o17:l+4≤1099511627776)(o18:(own (u8s bs)).length=l*1)(o19:zb7 [.cv (.lit (.int .u8 (u8.wrap ((↑(xs.getD (i.toNat*1) 0):Int).fdiv 16777216)))),.cv (.lit (.int .u8 (u8.wrap ((↑(xs.getD (i.toNat*1) 0):Int).fdiv 65536)))),.cv (.lit (.int .u8 (u8.wrap ((↑(xs.getD (i.toNat*1) 0):Int).fdiv 256)))),.cv (.lit (.int .u8 (u8.wrap (↑(xs.getD (i.toNat*1) 0):Int))))])(o21:CvL (own (u8s bs)++[.cv (.lit (.int .u8 (u8.wrap ((↑(xs.getD (i.toNat*1) 0):Int).fdiv 16777216)))),.cv (.lit (.int .u8 (u8.wrap ((↑(xs.getD (i.toNat*1) 0):Int).fdiv 65536)))),.cv (.lit (.int .u8 (u8.wrap ((↑(xs.getD (i.toNat*1) 0):Int).fdiv 256)))),.cv (.lit (.int .u8 (u8.wrap (↑(xs.getD (i.toNat*1) 0):Int))))])){R:Goal}(hn:j7 R.n [2]=true)(hR:Ok P 256 (loopHead P 256 0) ⟨J1 45 [(0,.cv (.lst n (j8 xs))),(3,.sl 0 0 (l+4) 1),(4,.cv (.lit (.int .i64 (i64.wrap (i-1)))))],[some (own (u8s bs)++[.cv (.lit (.int .u8 (u8.wrap ((↑(xs.getD (i.toNat*1) 0):Int).fdiv 16777216)))),.cv (.lit (.int .u8 (u8.wrap ((↑(xs.getD (i.toNat*1) 0):Int).fdiv 65536)))),.cv (.lit (.int .u8 (u8.wrap ((↑(xs.getD (i.toNat*1) 0):Int).fdiv 256)))),.cv (.lit (.int .u8 (u8.wrap (↑(xs.getD (i.toNat*1) 0):Int))))])]⟩ R):Ok P 256 (loopHead P 256 0) ⟨J1 45 [(0,.cv (.lst n (j8 xs))),(3,.sl 0 0 l 1),(4,.cv (.lit (.int .i64 i)))],[some (own (u8s bs))]⟩ R:=
 z07 (keep:=[0,3,4]) (σ:=[2]) (.b 3 h1 (.c o1 (.c o2 (.c (eqn 1) (.c (nn 24) (.c o5 (.c o6 (.c (eqn 1) (.c (nn 16) (.c o9 (.c o10 (.c (eqn 1) (.c (nn 8) (.c o13 (.l 8 o14 (.c (eqn 1) (.c o16 (.c o17 (.c o18 (.c o19 (.c (eqn 4) (.o 14 (.r (.lit (.int .u32 ↑(xs.getD (i.toNat*1) 0)))) (.o 20 (.r (.lit (.int .u32 ↑(xs.getD (i.toNat*1) 0)))) (.o 26 (.r (.lit (.int .u32 ↑(xs.getD (i.toNat*1) 0)))) (.o 34 .stop .nil))))))))))))))))))))))))) (by kernel_rfl) rfl hn hR (.cons o21 .nil)
theorem zm3(n l:Nat)(i:Int)(xs bs:List Nat)(h1:decide (i≥0)=false)(o1:List.take l (List.drop 0 (own (u8s bs)))=List.map (fun b=>z2D u8 (↑b.toNat:Int)) (List.map UInt8.ofNat bs))(o2:(z2d bs).size=l){R:Goal}(hR:R.c (.lit (.string (bytesOf (J9 (z2d bs)))))):Ok P 256 (loopHead P 256 0) ⟨J1 45 [(0,.cv (.lst n (j8 xs))),(3,.sl 0 0 l 1),(4,.cv (.lit (.int .i64 i)))],[some (own (u8s bs))]⟩ R:=
 okT (.b 3 h1 (.c o1 (.c o2 (.c (zjo (z2d bs)) (.o 5 (.r (.lit (.string (z2d bs)))) (.o 6 (.r (.lit (.string (bytesOf (J9 (z2d bs)))))) .nil)))))) (by kernel_rfl) hR
theorem zj3(n m:Nat)(i:Int)(xs ys:List Nat)(h1:decide (i≥0)=true)(h2:decide ((↑(xs.getD (i.toNat*1) 0):Int)<(↑(ys.getD (i.toNat*1) 0):Int))=true)(o1:(0:Int)≤i∧i<(n:Int))(o2:(j8 xs)[i.toNat*1]?=some (.lit (.int .u32 ↑(xs.getD (i.toNat*1) 0))))(o4:(0:Int)≤i∧i<(m:Int))(o5:(j8 ys)[i.toNat*1]?=some (.lit (.int .u32 ↑(ys.getD (i.toNat*1) 0)))){R:Goal}(hR:R.c (.lit (.int .i64 (-1:Int)))):Ok P 241 (loopHead P 241 0) ⟨J1 43 [(0,.cv (.lst n (j8 xs))),(1,.cv (.lst m (j8 ys))),(5,.cv (.lit (.int .i64 i)))],[]⟩ R:=
 okT (.b 3 h1 (.c o1 (.l 7 o2 (.c (eqn 1) (.c o4 (.l 11 o5 (.c (eqn 1) (.b 14 h2 .nil)))))))) (by kernel_rfl) hR
theorem zkh(n m:Nat)(i:Int)(xs ys:List Nat)(h1:decide (i≥0)=true)(h2:decide ((↑(xs.getD (i.toNat*1) 0):Int)<(↑(ys.getD (i.toNat*1) 0):Int))=false)(h3:decide ((↑(xs.getD (i.toNat*1) 0):Int)>(↑(ys.getD (i.toNat*1) 0):Int))=true)(o1:(0:Int)≤i∧i<(n:Int))(o2:(j8 xs)[i.toNat*1]?=some (.lit (.int .u32 ↑(xs.getD (i.toNat*1) 0))))(o4:(0:Int)≤i∧i<(m:Int))(o5:(j8 ys)[i.toNat*1]?=some (.lit (.int .u32 ↑(ys.getD (i.toNat*1) 0))))(o8:(0:Int)≤i∧i<(n:Int))(o9:(j8 xs)[i.toNat*1]?=some (.lit (.int .u32 ↑(xs.getD (i.toNat*1) 0))))(o11:(0:Int)≤i∧i<(m:Int))(o12:(j8 ys)[i.toNat*1]?=some (.lit (.int .u32 ↑(ys.getD (i.toNat*1) 0)))){R:Goal}(hR:R.c (.lit (.int .i64 1))):Ok P 241 (loopHead P 241 0) ⟨J1 43 [(0,.cv (.lst n (j8 xs))),(1,.cv (.lst m (j8 ys))),(5,.cv (.lit (.int .i64 i)))],[]⟩ R:=
 okT (.b 3 h1 (.c o1 (.l 7 o2 (.c (eqn 1) (.c o4 (.l 11 o5 (.c (eqn 1) (.b 14 h2 (.c o8 (.l 18 o9 (.c (eqn 1) (.c o11 (.l 22 o12 (.c (eqn 1) (.b 25 h3 .nil))))))))))))))) (by kernel_rfl) hR
theorem zlg(n m:Nat)(i:Int)(xs ys:List Nat)(h1:decide (i≥0)=true)(h2:decide ((↑(xs.getD (i.toNat*1) 0):Int)<(↑(ys.getD (i.toNat*1) 0):Int))=false)(h3:decide ((↑(xs.getD (i.toNat*1) 0):Int)>(↑(ys.getD (i.toNat*1) 0):Int))=false)(o1:(0:Int)≤i∧i<(n:Int))(o2:(j8 xs)[i.toNat*1]?=some (.lit (.int .u32 ↑(xs.getD (i.toNat*1) 0))))(o4:(0:Int)≤i∧i<(m:Int))(o5:(j8 ys)[i.toNat*1]?=some (.lit (.int .u32 ↑(ys.getD (i.toNat*1) 0))))(o8:(0:Int)≤i∧i<(n:Int))(o9:(j8 xs)[i.toNat*1]?=some (.lit (.int .u32 ↑(xs.getD (i.toNat*1) 0))))(o11:(0:Int)≤i∧i<(m:Int))(o12:(j8 ys)[i.toNat*1]?=some (.lit (.int .u32 ↑(ys.getD (i.toNat*1) 0)))){R:Goal}(hn:j7 R.n []=true)(hR:Ok P 241 (loopHead P 241 0) ⟨J1 43 [(0,.cv (.lst n (j8 xs))),(1,.cv (.lst m (j8 ys))),(5,.cv (.lit (.int .i64 (i64.wrap (i-1)))))],[]⟩ R):Ok P 241 (loopHead P 241 0) ⟨J1 43 [(0,.cv (.lst n (j8 xs))),(1,.cv (.lst m (j8 ys))),(5,.cv (.lit (.int .i64 i)))],[]⟩ R:=
 z07 (keep:=[0,1,5]) (σ:=[]) (.b 3 h1 (.c o1 (.l 7 o2 (.c (eqn 1) (.c o4 (.l 11 o5 (.c (eqn 1) (.b 14 h2 (.c o8 (.l 18 o9 (.c (eqn 1) (.c o11 (.l 22 o12 (.c (eqn 1) (.b 25 h3 (.o 29 .stop .nil)))))))))))))))) (by kernel_rfl) rfl hn hR .nil
theorem zmo(n m:Nat)(i:Int)(xs ys:List Nat)(h1:decide (i≥0)=false){R:Goal}(hR:R.c (.lit (.int .i64 0))):Ok P 241 (loopHead P 241 0) ⟨J1 43 [(0,.cv (.lst n (j8 xs))),(1,.cv (.lst m (j8 ys))),(5,.cv (.lit (.int .i64 i)))],[]⟩ R:=
 okT (.b 3 h1 .nil) (by kernel_rfl) hR
theorem ziW(n m o c i:Nat)(xs ys zs:List Nat)(h1:decide ((i:Int)<m)=true)(h2:decide ((i:Int)<n)=true)(a:ys.getD ((i:Int).toNat*1) 0<4294967296)(d:xs.getD ((i:Int).toNat*1) 0<4294967296)(e:c≤1)(o1:(0:Int)≤i∧(i:Int)<m)(o2:(j8 ys)[(i:Int).toNat*1]?=some (.lit (.int .u32 ↑(ys.getD ((i:Int).toNat*1) 0))))(o5:(0:Int)≤i∧(i:Int)<n)(o6:(j8 xs)[(i:Int).toNat*1]?=some (.lit (.int .u32 ↑(xs.getD ((i:Int).toNat*1) 0))))(o9:(0:Int)≤i∧(i:Int)<o)(o10:0+(i:Int).toNat*1+1≤(own (j8 zs)).length)(o11:CvL (j6 (own (j8 zs)) (0+(i:Int).toNat*1) [.cv (.lit (.int .u32 (↑((ys.getD ((i:Int).toNat*1) 0+xs.getD ((i:Int).toNat*1) 0+c)%4294967296):Int)))])){R:Goal}(hn:j7 R.n [0]=true)(hR:Ok P 239 (loopHead P 239 0) ⟨J1 54 [(0,.cv (.lst m (j8 ys))),(1,.cv (.lst n (j8 xs))),(5,.sl 0 0 o 1),(6,.cv (.lit (.int .u32 (↑((ys.getD ((i:Int).toNat*1) 0+xs.getD ((i:Int).toNat*1) 0+c)/4294967296):Int)))),(21,.cv (.lst m (j8 ys))),(22,.cv (.lit (.int .i64 (m:Int)))),(23,.cv (.lit (.int .i64 (i64.wrap ((i:Int)+1)))))],[some (j6 (own (j8 zs)) (0+(i:Int).toNat*1) [.cv (.lit (.int .u32 (↑((ys.getD ((i:Int).toNat*1) 0+xs.getD ((i:Int).toNat*1) 0+c)%4294967296):Int)))])]⟩ R):Ok P 239 (loopHead P 239 0) ⟨J1 54 [(0,.cv (.lst m (j8 ys))),(1,.cv (.lst n (j8 xs))),(5,.sl 0 0 o 1),(6,.cv (.lit (.int .u32 (c:Int)))),(21,.cv (.lst m (j8 ys))),(22,.cv (.lit (.int .i64 (m:Int)))),(23,.cv (.lit (.int .i64 (i:Int))))],[some (own (j8 zs))]⟩ R:=
 z07 (keep:=[0,1,5,6,21,22,23]) (σ:=[0]) (.b 2 h1 (.c o1 (.l 5 o2 (.c (eqn 1) (.b 13 h2 (.c o5 (.l 17 o6 (.c (eqn 1) (.c (z1k (ys.getD ((i:Int).toNat*1) 0) (xs.getD ((i:Int).toNat*1) 0) c a d e) (.c o9 (.c o10 (.o 24 (.r (.tup [.lit (.int .u32 (↑((ys.getD ((i:Int).toNat*1) 0+xs.getD ((i:Int).toNat*1) 0+c)%4294967296):Int)),.lit (.int .u32 (↑((ys.getD ((i:Int).toNat*1) 0+xs.getD ((i:Int).toNat*1) 0+c)/4294967296):Int))])) (.o 33 .stop .nil))))))))))))) (by kernel_rfl) rfl hn hR (.cons o11 .nil)
theorem zlB(n m o c i:Nat)(xs ys zs:List Nat)(h1:decide ((i:Int)<m)=true)(h2:decide ((i:Int)<n)=false)(a:ys.getD ((i:Int).toNat*1) 0<4294967296)(d:0<4294967296)(e:c≤1)(o1:(0:Int)≤i∧(i:Int)<m)(o2:(j8 ys)[(i:Int).toNat*1]?=some (.lit (.int .u32 ↑(ys.getD ((i:Int).toNat*1) 0))))(o6:(0:Int)≤i∧(i:Int)<o)(o7:0+(i:Int).toNat*1+1≤(own (j8 zs)).length)(o8:CvL (j6 (own (j8 zs)) (0+(i:Int).toNat*1) [.cv (.lit (.int .u32 (↑((ys.getD ((i:Int).toNat*1) 0+0+c)%4294967296):Int)))])){R:Goal}(hn:j7 R.n [0]=true)(hR:Ok P 239 (loopHead P 239 0) ⟨J1 54 [(0,.cv (.lst m (j8 ys))),(1,.cv (.lst n (j8 xs))),(5,.sl 0 0 o 1),(6,.cv (.lit (.int .u32 (↑((ys.getD ((i:Int).toNat*1) 0+0+c)/4294967296):Int)))),(21,.cv (.lst m (j8 ys))),(22,.cv (.lit (.int .i64 (m:Int)))),(23,.cv (.lit (.int .i64 (i64.wrap ((i:Int)+1)))))],[some (j6 (own (j8 zs)) (0+(i:Int).toNat*1) [.cv (.lit (.int .u32 (↑((ys.getD ((i:Int).toNat*1) 0+0+c)%4294967296):Int)))])]⟩ R):Ok P 239 (loopHead P 239 0) ⟨J1 54 [(0,.cv (.lst m (j8 ys))),(1,.cv (.lst n (j8 xs))),(5,.sl 0 0 o 1),(6,.cv (.lit (.int .u32 (c:Int)))),(21,.cv (.lst m (j8 ys))),(22,.cv (.lit (.int .i64 (m:Int)))),(23,.cv (.lit (.int .i64 (i:Int))))],[some (own (j8 zs))]⟩ R:=
 z07 (keep:=[0,1,5,6,21,22,23]) (σ:=[0]) (.b 2 h1 (.c o1 (.l 5 o2 (.c (eqn 1) (.b 13 h2 (.c (z1k (ys.getD ((i:Int).toNat*1) 0) 0 c a d e) (.c o6 (.c o7 (.o 19 (.r (.tup [.lit (.int .u32 (↑((ys.getD ((i:Int).toNat*1) 0+0+c)%4294967296):Int)),.lit (.int .u32 (↑((ys.getD ((i:Int).toNat*1) 0+0+c)/4294967296):Int))])) (.o 28 .stop .nil)))))))))) (by kernel_rfl) rfl hn hR (.cons o8 .nil)
theorem zmz(n m o c i:Nat)(xs ys zs:List Nat)(h1:decide ((i:Int)<m)=false)(a:o=(zs.set (0+(m:Int).toNat*1) c).length)(d:Dig 4294967296 (zs.set (0+(m:Int).toNat*1) c))(e:(zs.set (0+(m:Int).toNat*1) c).length<2^62)(o1:(0:Int)≤m∧(m:Int)<o)(o2:0+(m:Int).toNat*1+1≤(own (j8 zs)).length)(o4:List.take (o*1) (List.drop 0 (j6 (own (j8 zs)) (0+(m:Int).toNat*1) [.cv (.lit (.int .u32 (c:Int)))]))=List.map MV.cv (j8 (zs.set (0+(m:Int).toNat*1) c))){R:Goal}(hR:R.c (.lst (dig 4294967296 (val 4294967296 (zs.set (0+(m:Int).toNat*1) c))).length (j8 (dig 4294967296 (val 4294967296 (zs.set (0+(m:Int).toNat*1) c)))))):Ok P 239 (loopHead P 239 0) ⟨J1 54 [(0,.cv (.lst m (j8 ys))),(1,.cv (.lst n (j8 xs))),(5,.sl 0 0 o 1),(6,.cv (.lit (.int .u32 (c:Int)))),(21,.cv (.lst m (j8 ys))),(22,.cv (.lit (.int .i64 (m:Int)))),(23,.cv (.lit (.int .i64 (i:Int))))],[some (own (j8 zs))]⟩ R:=
 okT (.b 2 h1 (.c o1 (.c o2 (.rs 10 [j8 (zs.set (0+(m:Int).toNat*1) c)] (z0x o (zs.set (0+(m:Int).toNat*1) c) a d e) (.c o4 .nil))))) (by kernel_rfl) hR
theorem zfI(n m o c i:Nat)(xs ys zs:List Nat)(h1:decide ((i:Int)<n)=true)(h2:decide ((i:Int)<m)=true)(a:xs.getD ((i:Int).toNat*1) 0<4294967296)(d:ys.getD ((i:Int).toNat*1) 0<4294967296)(e:c≤1)(o1:(0:Int)≤i∧(i:Int)<n)(o2:(j8 xs)[(i:Int).toNat*1]?=some (.lit (.int .u32 ↑(xs.getD ((i:Int).toNat*1) 0))))(o5:(0:Int)≤i∧(i:Int)<m)(o6:(j8 ys)[(i:Int).toNat*1]?=some (.lit (.int .u32 ↑(ys.getD ((i:Int).toNat*1) 0))))(o9:(0:Int)≤i∧(i:Int)<o)(o10:0+(i:Int).toNat*1+1≤(own (j8 zs)).length)(o11:CvL (j6 (own (j8 zs)) (0+(i:Int).toNat*1) [.cv (.lit (.int .u32 (↑((xs.getD ((i:Int).toNat*1) 0+8589934592-ys.getD ((i:Int).toNat*1) 0-c)%4294967296):Int)))])){R:Goal}(hn:j7 R.n [0]=true)(hR:Ok P 242 (loopHead P 242 0) ⟨J1 41 [(1,.cv (.lst m (j8 ys))),(5,.sl 0 0 o 1),(6,.cv (.lit (.int .u32 ↑(if xs.getD ((i:Int).toNat*1) 0<ys.getD ((i:Int).toNat*1) 0+c then(1:Nat)else(0:Nat))))),(13,.cv (.lst n (j8 xs))),(14,.cv (.lit (.int .i64 (n:Int)))),(15,.cv (.lit (.int .i64 (i64.wrap ((i:Int)+1)))))],[some (j6 (own (j8 zs)) (0+(i:Int).toNat*1) [.cv (.lit (.int .u32 (↑((xs.getD ((i:Int).toNat*1) 0+8589934592-ys.getD ((i:Int).toNat*1) 0-c)%4294967296):Int)))])]⟩ R):Ok P 242 (loopHead P 242 0) ⟨J1 41 [(1,.cv (.lst m (j8 ys))),(5,.sl 0 0 o 1),(6,.cv (.lit (.int .u32 (c:Int)))),(13,.cv (.lst n (j8 xs))),(14,.cv (.lit (.int .i64 (n:Int)))),(15,.cv (.lit (.int .i64 (i:Int))))],[some (own (j8 zs))]⟩ R:=
 z07 (keep:=[1,5,6,13,14,15]) (σ:=[0]) (.b 2 h1 (.c o1 (.l 5 o2 (.c (eqn 1) (.b 13 h2 (.c o5 (.l 17 o6 (.c (eqn 1) (.c (z4u (xs.getD ((i:Int).toNat*1) 0) (ys.getD ((i:Int).toNat*1) 0) c a d e) (.c o9 (.c o10 (.o 24 (.r (.tup [.lit (.int .u32 (↑((xs.getD ((i:Int).toNat*1) 0+8589934592-ys.getD ((i:Int).toNat*1) 0-c)%4294967296):Int)),.lit (.int .u32 ↑(if xs.getD ((i:Int).toNat*1) 0<ys.getD ((i:Int).toNat*1) 0+c then(1:Nat)else(0:Nat)))])) (.o 33 .stop .nil))))))))))))) (by kernel_rfl) rfl hn hR (.cons o11 .nil)
theorem zgK(n m o c i:Nat)(xs ys zs:List Nat)(h1:decide ((i:Int)<n)=true)(h2:decide ((i:Int)<m)=false)(a:xs.getD ((i:Int).toNat*1) 0<4294967296)(d:0<4294967296)(e:c≤1)(o1:(0:Int)≤i∧(i:Int)<n)(o2:(j8 xs)[(i:Int).toNat*1]?=some (.lit (.int .u32 ↑(xs.getD ((i:Int).toNat*1) 0))))(o6:(0:Int)≤i∧(i:Int)<o)(o7:0+(i:Int).toNat*1+1≤(own (j8 zs)).length)(o8:CvL (j6 (own (j8 zs)) (0+(i:Int).toNat*1) [.cv (.lit (.int .u32 (↑((xs.getD ((i:Int).toNat*1) 0+8589934592-0-c)%4294967296):Int)))])){R:Goal}(hn:j7 R.n [0]=true)(hR:Ok P 242 (loopHead P 242 0) ⟨J1 41 [(1,.cv (.lst m (j8 ys))),(5,.sl 0 0 o 1),(6,.cv (.lit (.int .u32 ↑(if xs.getD ((i:Int).toNat*1) 0<nat_lit 0+c then(1:Nat)else(0:Nat))))),(13,.cv (.lst n (j8 xs))),(14,.cv (.lit (.int .i64 (n:Int)))),(15,.cv (.lit (.int .i64 (i64.wrap ((i:Int)+1)))))],[some (j6 (own (j8 zs)) (0+(i:Int).toNat*1) [.cv (.lit (.int .u32 (↑((xs.getD ((i:Int).toNat*1) 0+8589934592-0-c)%4294967296):Int)))])]⟩ R):Ok P 242 (loopHead P 242 0) ⟨J1 41 [(1,.cv (.lst m (j8 ys))),(5,.sl 0 0 o 1),(6,.cv (.lit (.int .u32 (c:Int)))),(13,.cv (.lst n (j8 xs))),(14,.cv (.lit (.int .i64 (n:Int)))),(15,.cv (.lit (.int .i64 (i:Int))))],[some (own (j8 zs))]⟩ R:=
 z07 (keep:=[1,5,6,13,14,15]) (σ:=[0]) (.b 2 h1 (.c o1 (.l 5 o2 (.c (eqn 1) (.b 13 h2 (.c (z4u (xs.getD ((i:Int).toNat*1) 0) 0 c a d e) (.c o6 (.c o7 (.o 19 (.r (.tup [.lit (.int .u32 (↑((xs.getD ((i:Int).toNat*1) 0+8589934592-0-c)%4294967296):Int)),.lit (.int .u32 ↑(if xs.getD ((i:Int).toNat*1) 0<nat_lit 0+c then(1:Nat)else(0:Nat)))])) (.o 28 .stop .nil)))))))))) (by kernel_rfl) rfl hn hR (.cons o8 .nil)
theorem zfD(n m o c i:Nat)(xs ys zs:List Nat)(h1:decide ((i:Int)<n)=false)(a:o=zs.length)(d:Dig 4294967296 zs)(e:zs.length<2^62)(o2:List.take (o*1) (List.drop 0 (own (j8 zs)))=List.map MV.cv (j8 zs)){R:Goal}(hR:R.c (.lst (dig 4294967296 (val 4294967296 zs)).length (j8 (dig 4294967296 (val 4294967296 zs))))):Ok P 242 (loopHead P 242 0) ⟨J1 41 [(1,.cv (.lst m (j8 ys))),(5,.sl 0 0 o 1),(6,.cv (.lit (.int .u32 (c:Int)))),(13,.cv (.lst n (j8 xs))),(14,.cv (.lit (.int .i64 (n:Int)))),(15,.cv (.lit (.int .i64 (i:Int))))],[some (own (j8 zs))]⟩ R:=
 okT (.b 2 h1 (.rs 4 [j8 zs] (z0x o zs a d e) (.c o2 .nil))) (by kernel_rfl) hR
theorem zcK(n o d c:Nat)(i:Int)(xs zs:List Nat)(h1:decide (i≥0)=true)(a:c<d)(e:xs.getD (i.toNat*1) 0<4294967296)(f:d<4294967296)(o1:(0:Int)≤i∧i<(n:Int))(o2:(j8 xs)[i.toNat*1]?=some (.lit (.int .u32 ↑(xs.getD (i.toNat*1) 0))))(o5:(0:Int)≤i∧i<(o:Int))(o6:0+i.toNat*1+1≤(own (j8 zs)).length)(o7:CvL (j6 (own (j8 zs)) (0+i.toNat*1) [.cv (.lit (.int .u32 ↑((c*4294967296+xs.getD (i.toNat*1) 0)/d)))])){R:Goal}(hn:j7 R.n [0]=true)(hR:Ok P 261 (loopHead P 261 0) ⟨J1 35 [(0,.cv (.lst n (j8 xs))),(1,.cv (.lit (.int .u32 (d:Int)))),(6,.sl 0 0 o 1),(7,.cv (.lit (.int .u32 ↑((c*4294967296+xs.getD (i.toNat*1) 0)%d)))),(8,.cv (.lit (.int .i64 (i64.wrap (i-1)))))],[some (j6 (own (j8 zs)) (0+i.toNat*1) [.cv (.lit (.int .u32 ↑((c*4294967296+xs.getD (i.toNat*1) 0)/d)))])]⟩ R):Ok P 261 (loopHead P 261 0) ⟨J1 35 [(0,.cv (.lst n (j8 xs))),(1,.cv (.lit (.int .u32 (d:Int)))),(6,.sl 0 0 o 1),(7,.cv (.lit (.int .u32 (c:Int)))),(8,.cv (.lit (.int .i64 i)))],[some (own (j8 zs))]⟩ R:=
 z07 (keep:=[0,1,6,7,8]) (σ:=[0]) (.b 3 h1 (.c o1 (.l 10 o2 (.c (eqn 1) (.c (zbM c (xs.getD (i.toNat*1) 0) d a e f) (.c o5 (.c o6 (.o 12 (.r (.tup [.lit (.int .u32 ↑((c*4294967296+xs.getD (i.toNat*1) 0)/d)),.lit (.int .u32 ↑((c*4294967296+xs.getD (i.toNat*1) 0)%d))])) (.o 22 .stop .nil))))))))) (by kernel_rfl) rfl hn hR (.cons o7 .nil)
theorem zdX(n o d c:Nat)(i:Int)(xs zs:List Nat)(h1:decide (i≥0)=false)(a:o=zs.length)(e:Dig 4294967296 zs)(f:zs.length<2^62)(o2:List.take (o*1) (List.drop 0 (own (j8 zs)))=List.map MV.cv (j8 zs)){R:Goal}(hR:R.c (.tup [.lst (dig 4294967296 (val 4294967296 zs)).length (j8 (dig 4294967296 (val 4294967296 zs))),.lit (.int .u32 (c:Int))])):Ok P 261 (loopHead P 261 0) ⟨J1 35 [(0,.cv (.lst n (j8 xs))),(1,.cv (.lit (.int .u32 (d:Int)))),(6,.sl 0 0 o 1),(7,.cv (.lit (.int .u32 (c:Int)))),(8,.cv (.lit (.int .i64 i)))],[some (own (j8 zs))]⟩ R:=
 okT (.b 3 h1 (.rs 5 [j8 zs] (z0x o zs a e f) (.c o2 .nil))) (by kernel_rfl) hR
theorem zch(n:Nat)(i:Int)(v:Nat)(xs:List Nat)(h1:decide (i≥0)=true)(o2:(0:Int)≤i∧i<(n:Int))(o3:(j8 xs)[i.toNat*1]?=some (.lit (.int .u32 ↑(xs.getD (i.toNat*1) 0)))){R:Goal}(hn:j7 R.n []=true)(hR:Ok P 259 (loopHead P 259 0) ⟨J1 21 [(0,.cv (.lst n (j8 xs))),(3,.cv (.lit (.int .u64 (X9 BinOp.or u64 (u64.wrap ((v:Int)*4294967296)) (u64.wrap (↑(xs.getD (i.toNat*1) 0):Int)))))),(4,.cv (.lit (.int .i64 (i64.wrap (i-1)))))],[]⟩ R):Ok P 259 (loopHead P 259 0) ⟨J1 21 [(0,.cv (.lst n (j8 xs))),(3,.cv (.lit (.int .u64 (v:Int)))),(4,.cv (.lit (.int .i64 i)))],[]⟩ R:=
 z07 (keep:=[0,3,4]) (σ:=[]) (.b 3 h1 (.c (nn 32) (.c o2 (.l 9 o3 (.c (eqn 1) (.o 16 .stop .nil)))))) (by kernel_rfl) rfl hn hR .nil
theorem zbC(n:Nat)(i:Int)(v:Nat)(xs:List Nat)(h1:decide (i≥0)=false){R:Goal}(hR:R.c (.lit (.int .u64 (v:Int)))):Ok P 259 (loopHead P 259 0) ⟨J1 21 [(0,.cv (.lst n (j8 xs))),(3,.cv (.lit (.int .u64 (v:Int)))),(4,.cv (.lit (.int .i64 i)))],[]⟩ R:=
 okT (.b 3 h1 .nil) (by kernel_rfl) hR
theorem Y7{xs:List Nat}{i:Nat}(h:i<xs.length):(j8 xs)[i]?=some (CV.lit (.int .u32 (xs.getD i 0:Nat))):=z7V h
theorem z1f {b : Nat} {xs ys : List Nat} (hx : Dig b xs) (hb : 0 < b) {k : Nat} (hk : k < xs.length) (hl : xs.length = ys.length)
    (ht:xs.drop (k+1)=ys.drop (k+1)) (h:xs.getD k 0<ys.getD k 0):val b xs<val b ys:=by
 have e1:=z15 (b:=b) xs k (by omega)
 have e2:=z15 (b:=b) ys k (by omega)
 have e3:=z1O (b:=b) hk
 have e4:=z1O (b:=b) (xs:=ys) (i:=k) (by omega)
 have hlt:=z0I hb _ (hx.take k)
 rw[List.length_take,Nat.min_eq_left (by omega)]at hlt
 rw[e1,e2,e3,e4,ht]
 generalize val b (ys.drop (k+1))=t at*
 have:b^k*(xs.getD k 0+1+b*t)≤b^k*(ys.getD k 0+b*t):=Nat.mul_le_mul_left _ (by omega)
 rw[show xs.getD k 0+1+b*t=(xs.getD k 0+b*t)+1 by omega,Nat.mul_add,Nat.mul_one]at this
 omega
def z9m(a b:Nat)(la lb:Nat):Int:=if la≠lb then(la:Int)-lb else if a<b then-1 else if a=b then 0 else 1
theorem zgy {R : Goal} (hn : j7 R.n [] = true) (xs ys : List Nat) (hl : xs.length = ys.length) (hlen : xs.length < 2 ^ 62) (hx : Dig B32 xs) (hy : Dig B32 ys)
    (hR:R.c (j5 (if val B32 xs<val B32 ys then-1 else if val B32 xs=val B32 ys then 0 else 1))):
    ∀k:Nat,k≤xs.length→xs.drop k=ys.drop k→
     Ok P 241 (loopHead P 241 0) ⟨J1 43 [(0,.cv (.lst xs.length (j8 xs))),(1,.cv (.lst ys.length (j8 ys))),(5,.cv (.lit (.int .i64 ((k:Int)-1))))],[]⟩ R:=by
 intro k
 induction k with
 |zero=>
  intro _ hd
  simp only[List.drop_zero]at hd
  refine zmo _ _ _ _ _ (by simp) ?_
  rw[hd,if_neg (Nat.lt_irrefl _),if_pos rfl]at hR
  exact hR
 |succ k ih=>
  intro hk hd
  have e0:((k+1:Nat):Int)-1=(k:Int):=by omega
  have e1:(k:Int).toNat*1=k:=by omega
  have gx:=Y7 (xs:=xs) (i:=k) (by omega)
  have gy:=Y7 (xs:=ys) (i:=k) (by omega)
  rw[e0]
  by_cases h1:xs.getD k 0<ys.getD k 0
  · have:=z1f hx (by decide) (by omega) hl hd h1
    rw[if_pos this]at hR
    exact zj3 _ _ _ _ _ (by simp) (by rw[e1];simpa using h1) (by omega) (by rw[e1];exact gx) (by omega) (by rw[e1];exact gy) hR
  · by_cases h2:ys.getD k 0<xs.getD k 0
    · have:=z1f hy (by decide) (by omega) hl.symm hd.symm h2
      rw[if_neg (by omega),if_neg (by omega)]at hR
      exact zkh _ _ _ _ _ (by simp) (by rw[e1];simpa using h1) (by rw[e1];simpa using h2) (by omega) (by rw[e1];exact gx) (by omega) (by rw[e1];exact gy) (by omega) (by rw[e1];exact gx) (by omega) (by rw[e1];exact gy) hR
    · refine zlg _ _ _ _ _ (by simp) (by rw[e1];simpa using h1) (by rw[e1];simpa using h2) (by omega) (by rw[e1];exact gx) (by omega) (by rw[e1];exact gy) (by omega) (by rw[e1];exact gx) (by omega) (by rw[e1];exact gy) hn ?_
      rw[w64 (by omega)]
      refine ih (by omega) ?_
      have a1:k<xs.length:=by omega
      have a2:k<ys.length:=by omega
      rw[List.drop_eq_getElem_cons a1,List.drop_eq_getElem_cons a2,hd]
      have:xs.getD k 0=ys.getD k 0:=by omega
      simp only[List.getD_eq_getElem?_getD,List.getElem?_eq_getElem a1,List.getElem?_eq_getElem a2,Option.getD_some]at this
      rw[this]
theorem z2y(a b:Nat)(ha:(dig B32 a).length<2^62)(hb:(dig B32 b).length<2^62):PCall P 241 [z0c a,z0c b] (j5 (z9m a b (dig B32 a).length (dig B32 b).length)):=by
 have w:i64.wrap (((dig B32 a).length:Int)-(dig B32 b).length)=((dig B32 a).length:Int)-(dig B32 b).length:=w64 (by omega)
 by_cases h:(dig B32 a).length=(dig B32 b).length
 · refine zmw _ _ _ _ (by simp[h]) ?_
   rw[w64 (by omega)]
   refine zgy (R:= .of _) rfl _ _ h ha (Y8 (by decide) _) (Y8 (by decide) _) ?_ _ (Nat.le_refl _) (by rw[List.drop_length,h,List.drop_length])
   rw[Q8 (by decide),Q8 (by decide),z9m,if_neg (by simpa using h)]
   rfl
 · refine(ziG _ _ _ _ (by simp;omega)).eq ?_
   rw[w,z9m,if_pos h]
theorem z7w{a b:Nat}:z9m a b (dig B32 a).length (dig B32 b).length<0↔a<b:=by
 have h1:=J8 (by decide:2≤B32) a
 have h2:=J8 (by decide:2≤B32) b
 have key: ∀x y:Nat,(dig B32 x).length<(dig B32 y).length→x<y:=by
  intro x y h
  rcases Nat.lt_or_ge x y with h'|h'
  · exact h'
  · have:=Q1 (by decide:2≤B32) (n:=y) (k:=(dig B32 x).length) (Nat.lt_of_le_of_lt h' (J8 (by decide) x))
    omega
 unfold z9m
 split
 · rename_i h
   constructor
   · intro h3;exact key a b (by omega)
   · intro h3
     rcases Nat.lt_or_gt_of_ne h with h4|h4
     · omega
     · have:=key b a h4;omega
 · split
   · rename_i h;simp[h]
   · rename_i h
     split<;>simp[h]
theorem zaQ(bs:List Nat):z2d bs=z1U bs.reverse:=by simp[z2d,z1U]
theorem z8c{bs:List Nat}(h:Dig 256 bs):J9 (z2d bs)=val 256 bs.reverse:=by
 rw[zaQ,z53 (fun x hx=>h x (by simpa using hx))]
theorem zgu {R : Goal} (_hn : j7 R.n [0] = true) (hn2 : j7 R.n [2] = true) (xs : List Nat) (hl : xs.length < 2 ^ 36) (hx : Dig B32 xs) (hR : R.c (X1 (bytesOf (val B32 xs)))) :
    ∀(k:Nat) (bs:List Nat),k≤xs.length→bs.length=4*(xs.length-k)→Dig 256 bs→val 256 bs.reverse=val B32 (xs.drop k)→
     Ok P 256 (loopHead P 256 0) ⟨J1 45 [(0,.cv (.lst xs.length (j8 xs))),(3,.sl 0 0 (4*(xs.length-k)) 1),(4,.cv (.lit (.int .i64 ((k:Int)-1))))],[some (own (u8s bs))]⟩ R:=by
 intro k
 induction k with
 |zero=>
  intro bs _ hb hd hv
  refine zm3 _ _ _ _ _ (by simp) ?_ (by rw[z4B,hb]) ?_
  · rw[List.drop_zero,List.take_of_length_le (by rw[J4,z6W,hb];exact Nat.le_refl _)]
    have:=z6t hd
    simpa[z2d]using this
  · rw[z8c hd,hv,List.drop_zero];exact hR
 |succ k ih=>
  intro bs hk hb hd hv
  have e0:((k+1:Nat):Int)-1=(k:Int):=by omega
  have e1:(k:Int).toNat*1=k:=by omega
  have gx:=Y7 (xs:=xs) (i:=k) (by omega)
  have dx:=hx.get (by decide) k
  have hdr:=z42 (b:=B32) xs k
  rw[e0]
  have q1: ∀d:Nat,u8.wrap ((d:Int).fdiv 16777216)=((d/16777216%256:Nat):Int):=by intro d;rw[fdp _ (by decide),wr8];omega
  have q2: ∀d:Nat,u8.wrap ((d:Int).fdiv 65536)=((d/65536%256:Nat):Int):=by intro d;rw[fdp _ (by decide),wr8];omega
  have q3: ∀d:Nat,u8.wrap ((d:Int).fdiv 256)=((d/256%256:Nat):Int):=by intro d;rw[fdp _ (by decide),wr8];omega
  have q4: ∀d:Nat,u8.wrap (d:Int)=((d%256:Nat):Int):=by intro d;rw[wr8];omega
  have hcells: ∀a b c d:Nat,own (u8s bs)++[MV.cv (CV.lit (.int .u8 (a:Int))),MV.cv (CV.lit (.int .u8 (b:Int))),MV.cv (CV.lit (.int .u8 (c:Int))),MV.cv (CV.lit (.int .u8 (d:Int)))]=own (u8s (bs++[a,b,c,d])):=by
   intro a b c d;simp[own,u8s]
  have hone : zb7 [MV.cv (CV.lit (.int .u8 (u8.wrap (((xs.getD ((k : Int).toNat * 1) 0 : Nat) : Int).fdiv 16777216)))), MV.cv (CV.lit (.int .u8 (u8.wrap (((xs.getD ((k : Int).toNat * 1) 0 : Nat) : Int).fdiv 65536)))),
      MV.cv (CV.lit (.int .u8 (u8.wrap (((xs.getD ((k:Int).toNat*1) 0:Nat):Int).fdiv 256)))),MV.cv (CV.lit (.int .u8 (u8.wrap ((xs.getD ((k:Int).toNat*1) 0:Nat):Int))))]:=by
   intro m hm
   simp only[List.mem_cons,List.not_mem_nil,or_false]at hm
   rcases hm with rfl|rfl|rfl|rfl<;>rfl
  refine zm2 _ _ _ _ _ (by simp) (by omega) (by rw[e1];exact gx) (by omega) (by rw[e1];exact gx) (by omega) (by rw[e1];exact gx) (by omega) (by rw[e1];exact gx) (by omega) (by omega) (by rw[J4,z6W,hb];omega) hone ?_ hn2 ?_
  · rw[e1,q1,q2,q3,q4,hcells];exact J0 _
  · rw[e1,q1,q2,q3,q4,hcells,w64 (by omega)]
    have hb':(bs++[xs.getD k 0/16777216%256,xs.getD k 0/65536%256,xs.getD k 0/256%256,xs.getD k 0%256]).length=4*(xs.length-k):=by simp[hb];omega
    have:=ih (bs++[xs.getD k 0/16777216%256,xs.getD k 0/65536%256,xs.getD k 0/256%256,xs.getD k 0%256]) (by omega) hb' ?_ ?_
    · rw[show 4*(xs.length-(k+1))+4=4*(xs.length-k) by omega];exact this
    · refine hd.append ?_
      intro x hx'
      simp only[List.mem_cons,List.not_mem_nil,or_false]at hx'
      omega
    · rw[hdr,←hv]
      simp only[List.reverse_append,List.reverse_cons,List.reverse_nil,List.nil_append,List.cons_append,val]
      generalize val 256 bs.reverse=t at*
      simp only[B32]at*
      omega
theorem zbn(a:Nat)(ha:(dig B32 a).length<2^36):PCall P 256 [z0c a] (X1 (bytesOf a)):=by
 have e1:i64.wrap (4*((dig B32 a).length:Int))=((4*(dig B32 a).length:Nat):Int):=by rw[w64 (by omega)];omega
 refine zj0 _ _ (by rw[e1];omega) (by rw[z7C];exact J0 _) ?_
 rw[z7C,w64 (n:=((dig B32 a).length:Int)-1) (by omega)]
 have:=zgu (R:= .of (fun x=>x=X1 (bytesOf a))) rfl rfl (dig B32 a) ha (Y8 (by decide) _) (by rw[Q8 (by decide)];rfl) _ [] (Nat.le_refl _) (by simp) (by intro x hx;simp at hx) (by rw[List.drop_length];rfl)
 rw[Nat.sub_self]at this
 refine Ok.shorten 0 0 rfl ?_
 exact this
theorem zhj(a:Nat)(b:Bool)(h1:(b)=true)(d:(dig 4294967296 a).length<2^36):PCall P (240:FuncId) [z0c a,CV.lit (Value.bool b)] (CV.agg [CV.lit (Value.bool !(bytesOf a).toList==[]),CV.lit (Value.string (bytesOf a))]):=
 j3 (.r 2 (zbn a d) (.b 5 h1 (.c (show 2≤2 from(by decide)) .nil))) (by kernel_rfl)
theorem zhd(a:Nat)(b:Bool)(h1:(b)=false)(d:(dig 4294967296 a).length<2^36):PCall P (240:FuncId) [z0c a,CV.lit (Value.bool b)] (CV.agg [CV.lit (Value.bool false),CV.lit (Value.string (bytesOf a))]):=
 j3 (.r 2 (zbn a d) (.b 5 h1 (.c (show 2≤2 from(by decide)) .nil))) (by kernel_rfl)
theorem zhy(n:Int)(a:(0:Int)≤u32.wrap n)(d:u32.wrap n<(4294967296:Int))(e:(0:Int)≤u32.wrap (n.fdiv (4294967296:Int)))(f:u32.wrap (n.fdiv (4294967296:Int))<(4294967296:Int))(o2:[MV.cv (CV.lit (Value.int u32 (u32.wrap n))),MV.cv (CV.lit (Value.int u32 (u32.wrap (n.fdiv (4294967296:Int)))))]=[MV.cv (CV.lit (Value.int u32 (u32.wrap n))),MV.cv (CV.lit (Value.int u32 (u32.wrap (n.fdiv (4294967296:Int)))))]):PCall P (245:FuncId) [CV.lit (Value.int u64 n)] (CV.lst (dig 4294967296 (u32.wrap n+(4294967296:Int)*u32.wrap (n.fdiv (4294967296:Int))).toNat).length (j8 (dig 4294967296 (u32.wrap n+(4294967296:Int)*u32.wrap (n.fdiv (4294967296:Int))).toNat))):=
 j3 (.c (show(0:Int)≤(32:Int)from(by decide)) (.rs 7 [[CV.lit (Value.int u32 (u32.wrap n)),CV.lit (Value.int u32 (u32.wrap (n.fdiv (4294967296:Int))))]] (zby (u32.wrap n) (u32.wrap (n.fdiv (4294967296:Int))) a d e f) (.c o2 .nil))) (by kernel_rfl)
end Go.Fw
