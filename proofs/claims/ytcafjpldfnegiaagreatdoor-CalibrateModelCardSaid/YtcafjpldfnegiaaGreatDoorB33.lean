/- A part of the proof that the law returns true for every input: an executor for the model's code, and what functions of the program compute. -/
import Derived.Test.YtcafjpldfnegiaaGreatDoorB11
import Derived.Test.YtcafjpldfnegiaaGreatDoorB15
import Derived.Test.YtcafjpldfnegiaaGreatDoorB30
import Derived.KernelRfl
open Go IntKind
namespace Go.Fw
set_option maxRecDepth 100000
theorem zoW(j1 n1 j2 n2:Nat)(t t':Int)(xs ys:List Nat)(h1:(z1V (val 16777216 (List.take n1 (List.drop j1 xs))) (val 16777216 (List.take n2 (List.drop j2 ys)))==0)=true)(a:n1=(List.take n1 (List.drop j1 xs)).length)(d:n2=(List.take n2 (List.drop j2 ys)).length)(e:List.take n1 (List.drop j1 xs)=dig 16777216 (val 16777216 (List.take n1 (List.drop j1 xs))))(f:List.take n2 (List.drop j2 ys)=dig 16777216 (val 16777216 (List.take n2 (List.drop j2 ys))))(g:(List.take n1 (List.drop j1 xs)).length<2^40)(i:(List.take n2 (List.drop j2 ys)).length<2^40)(o1:List.take (n1*1) (List.drop j1 (own (j4 xs)))=List.map MV.cv (j4 (List.take n1 (List.drop j1 xs))))(o2:List.take (n2*1) (List.drop j2 (own (j4 ys)))=List.map MV.cv (j4 (List.take n2 (List.drop j2 ys)))){R:Goal}(hn:j7 R.n [0,1]=true)(hR:Ok P 184 (loopHead P 184 2) ⟨J1 111 [(4,.ptr 0 0),(9,.sl (0+1) j1 n1 1),(11,.cv (.lit (.int .i64 t))),(12,.cv (.lit (.int .i64 t'))),(14,.cv (.lit (.int .i64 0)))],[some [.cv (.lit (.bool false)),.cv (.lit (.string {data:= #[]}))],some (own (j4 xs))]⟩ R):Ok P 184 (loopHead P 184 1) ({tm:=J1 111 [(4,.ptr 0 0),(9,.sl 1 j1 n1 1),(10,.sl 2 j2 n2 1),(11,.cv (j5 t)),(12,.cv (j5 t'))],hp:=[some [.cv (.lit (.bool false)),.cv (X1 {data:= #[]})],some (own (j4 xs)),some (own (j4 ys))]}) R:=
 z07 (keep:=[4,9,11,12,14]) (σ:=[0,1]) (.c (z31 n1 n2 (List.take n1 (List.drop j1 xs)) (List.take n2 (List.drop j2 ys)) a d e f g i) (.c o1 (.c o2 (.o 3 (.k (.lit (.int .i64 (z1V (val 16777216 (List.take n1 (List.drop j1 xs))) (val 16777216 (List.take n2 (List.drop j2 ys)))))) [j4 (List.take n1 (List.drop j1 xs)),j4 (List.take n2 (List.drop j2 ys))]) (.b 7 h1 (.o 9 .stop .nil)))))) (by kernel_rfl) rfl hn hR (.cons (by simp[CvL]) (.cons (J0 _) .nil))
theorem zpr(j1 n1 j2 n2:Nat)(t t':Int)(xs ys:List Nat)(h1:(z1V (val 16777216 (List.take n1 (List.drop j1 xs))) (val 16777216 (List.take n2 (List.drop j2 ys)))==0)=false)(h2:decide (z1V (val 16777216 (List.take n1 (List.drop j1 xs))) (val 16777216 (List.take n2 (List.drop j2 ys)))>0)=true)(a:n1=(List.take n1 (List.drop j1 xs)).length)(d:n2=(List.take n2 (List.drop j2 ys)).length)(e:List.take n1 (List.drop j1 xs)=dig 16777216 (val 16777216 (List.take n1 (List.drop j1 xs))))(f:List.take n2 (List.drop j2 ys)=dig 16777216 (val 16777216 (List.take n2 (List.drop j2 ys))))(i:(List.take n1 (List.drop j1 xs)).length<2^40)(j:(List.take n2 (List.drop j2 ys)).length<2^40)(l:n1=(List.take n1 (List.drop j1 xs)).length)(p:n2=(List.take n2 (List.drop j2 ys)).length)(q:List.take n1 (List.drop j1 xs)=dig 16777216 (val 16777216 (List.take n1 (List.drop j1 xs))))(r:List.take n2 (List.drop j2 ys)=dig 16777216 (val 16777216 (List.take n2 (List.drop j2 ys))))(s:(List.take n1 (List.drop j1 xs)).length<2^40)(u:val 16777216 (List.take n2 (List.drop j2 ys))≤val 16777216 (List.take n1 (List.drop j1 xs)))(v:val 16777216 (List.take n1 (List.drop j1 xs))-val 16777216 (List.take n2 (List.drop j2 ys))≠0)(w:(dig 16777216 (val 16777216 (List.take n1 (List.drop j1 xs))-val 16777216 (List.take n2 (List.drop j2 ys)))).length≤n1)(x:n1<2^40)(o1:List.take (n1*1) (List.drop j1 (own (j4 xs)))=List.map MV.cv (j4 (List.take n1 (List.drop j1 xs))))(o2:List.take (n2*1) (List.drop j2 (own (j4 ys)))=List.map MV.cv (j4 (List.take n2 (List.drop j2 ys))))(o6:List.take (n1*1) (List.drop j1 (own (j4 xs)))=List.map MV.cv (j4 (List.take n1 (List.drop j1 xs))))(o7:List.take (n2*1) (List.drop j2 (own (j4 ys)))=List.map MV.cv (j4 (List.take n2 (List.drop j2 ys))))(o9:BlksCv [some (own (j4 (Z1 16777216 n1 (val 16777216 (List.take n1 (List.drop j1 xs))-val 16777216 (List.take n2 (List.drop j2 ys)))))),some (own (j4 (X8 (Z1 16777216 n1 (val 16777216 (List.take n1 (List.drop j1 xs))-val 16777216 (List.take n2 (List.drop j2 ys)))) (v2 (val 16777216 (List.take n1 (List.drop j1 xs))-val 16777216 (List.take n2 (List.drop j2 ys)))/24) ((dig 16777216 (val 16777216 (List.take n1 (List.drop j1 xs))-val 16777216 (List.take n2 (List.drop j2 ys)))).length-v2 (val 16777216 (List.take n1 (List.drop j1 xs))-val 16777216 (List.take n2 (List.drop j2 ys)))/24) (z3N (val 16777216 (List.take n1 (List.drop j1 xs))-val 16777216 (List.take n2 (List.drop j2 ys)))))))]){R:Goal}(hn:j7 R.n [0,2,4]=true)(hR:Ok P 184 (loopHead P 184 1) ⟨J1 111 [(4,.ptr 0 0),(9,.sl (0+1) j2 n2 1),(10,.sl (0+1+1) (v2 (val 16777216 (List.take n1 (List.drop j1 xs))-val 16777216 (List.take n2 (List.drop j2 ys)))/24) (dig 16777216 (z3N (val 16777216 (List.take n1 (List.drop j1 xs))-val 16777216 (List.take n2 (List.drop j2 ys))))).length 1),(11,.cv (.lit (.int .i64 t))),(12,.cv (.lit (.int .i64 t')))],[some [.cv (.lit (.bool false)),.cv (.lit (.string {data:= #[]}))],some (own (j4 ys)),some (own (j4 (X8 (Z1 16777216 n1 (val 16777216 (List.take n1 (List.drop j1 xs))-val 16777216 (List.take n2 (List.drop j2 ys)))) (v2 (val 16777216 (List.take n1 (List.drop j1 xs))-val 16777216 (List.take n2 (List.drop j2 ys)))/24) ((dig 16777216 (val 16777216 (List.take n1 (List.drop j1 xs))-val 16777216 (List.take n2 (List.drop j2 ys)))).length-v2 (val 16777216 (List.take n1 (List.drop j1 xs))-val 16777216 (List.take n2 (List.drop j2 ys)))/24) (z3N (val 16777216 (List.take n1 (List.drop j1 xs))-val 16777216 (List.take n2 (List.drop j2 ys)))))))]⟩ R):Ok P 184 (loopHead P 184 1) ({tm:=J1 111 [(4,.ptr 0 0),(9,.sl 1 j1 n1 1),(10,.sl 2 j2 n2 1),(11,.cv (j5 t)),(12,.cv (j5 t'))],hp:=[some [.cv (.lit (.bool false)),.cv (X1 {data:= #[]})],some (own (j4 xs)),some (own (j4 ys))]}) R:=
 z07 (keep:=[4,9,10,11,12]) (σ:=[0,2,4]) (.c (z31 n1 n2 (List.take n1 (List.drop j1 xs)) (List.take n2 (List.drop j2 ys)) a d e f i j) (.c o1 (.c o2 (.o 3 (.k (.lit (.int .i64 (z1V (val 16777216 (List.take n1 (List.drop j1 xs))) (val 16777216 (List.take n2 (List.drop j2 ys)))))) [j4 (List.take n1 (List.drop j1 xs)),j4 (List.take n2 (List.drop j2 ys))]) (.b 7 h1 (.b 10 h2 (.c (zb4 n1 n2 (List.take n1 (List.drop j1 xs)) (List.take n2 (List.drop j2 ys)) l p q r s u) (.c o6 (.c o7 (.c (ziy n1 (val 16777216 (List.take n1 (List.drop j1 xs))-val 16777216 (List.take n2 (List.drop j2 ys))) v w x) (.c o9 (.o 17 (.g (.sl 0 0 (dig 16777216 (val 16777216 (List.take n1 (List.drop j1 xs))-val 16777216 (List.take n2 (List.drop j2 ys)))).length 1) (j4 (Z1 B24 n1 (val B24 (List.take n1 (List.drop j1 xs))-val B24 (List.take n2 (List.drop j2 ys))))) [j4 (List.take n1 (List.drop j1 xs)),j4 (List.take n2 (List.drop j2 ys))]) (.o 18 (.m [4] (.tup [.sl 0 (v2 (val 16777216 (List.take n1 (List.drop j1 xs))-val 16777216 (List.take n2 (List.drop j2 ys)))/24) (dig 16777216 (z3N (val 16777216 (List.take n1 (List.drop j1 xs))-val 16777216 (List.take n2 (List.drop j2 ys))))).length 1,.cv (.lit (.int .i64 (↑(v2 (val 16777216 (List.take n1 (List.drop j1 xs))-val 16777216 (List.take n2 (List.drop j2 ys)))):Int)))]) [some (own (j4 (X8 (Z1 B24 n1 (val 16777216 (List.take n1 (List.drop j1 xs))-val 16777216 (List.take n2 (List.drop j2 ys)))) (v2 (val 16777216 (List.take n1 (List.drop j1 xs))-val 16777216 (List.take n2 (List.drop j2 ys)))/24) ((dig B24 (val 16777216 (List.take n1 (List.drop j1 xs))-val 16777216 (List.take n2 (List.drop j2 ys)))).length-v2 (val 16777216 (List.take n1 (List.drop j1 xs))-val 16777216 (List.take n2 (List.drop j2 ys)))/24) (z3N (val 16777216 (List.take n1 (List.drop j1 xs))-val 16777216 (List.take n2 (List.drop j2 ys)))))))]) (.o 23 .stop .nil)))))))))))))) (by kernel_rfl) rfl hn hR (.cons (by simp[CvL]) (.cons (J0 _) (.cons (J0 _) .nil)))
theorem zoO(j1 n1 j2 n2:Nat)(t t':Int)(xs ys:List Nat)(h1:(z1V (val 16777216 (List.take n1 (List.drop j1 xs))) (val 16777216 (List.take n2 (List.drop j2 ys)))==0)=false)(h2:decide (z1V (val 16777216 (List.take n1 (List.drop j1 xs))) (val 16777216 (List.take n2 (List.drop j2 ys)))>0)=false)(a:n1=(List.take n1 (List.drop j1 xs)).length)(d:n2=(List.take n2 (List.drop j2 ys)).length)(e:List.take n1 (List.drop j1 xs)=dig 16777216 (val 16777216 (List.take n1 (List.drop j1 xs))))(f:List.take n2 (List.drop j2 ys)=dig 16777216 (val 16777216 (List.take n2 (List.drop j2 ys))))(i:(List.take n1 (List.drop j1 xs)).length<2^40)(j:(List.take n2 (List.drop j2 ys)).length<2^40)(l:n2=(List.take n2 (List.drop j2 ys)).length)(p:n1=(List.take n1 (List.drop j1 xs)).length)(q:List.take n2 (List.drop j2 ys)=dig 16777216 (val 16777216 (List.take n2 (List.drop j2 ys))))(r:List.take n1 (List.drop j1 xs)=dig 16777216 (val 16777216 (List.take n1 (List.drop j1 xs))))(s:(List.take n2 (List.drop j2 ys)).length<2^40)(u:val 16777216 (List.take n1 (List.drop j1 xs))≤val 16777216 (List.take n2 (List.drop j2 ys)))(v:val 16777216 (List.take n2 (List.drop j2 ys))-val 16777216 (List.take n1 (List.drop j1 xs))≠0)(w:(dig 16777216 (val 16777216 (List.take n2 (List.drop j2 ys))-val 16777216 (List.take n1 (List.drop j1 xs)))).length≤n2)(x:n2<2^40)(o1:List.take (n1*1) (List.drop j1 (own (j4 xs)))=List.map MV.cv (j4 (List.take n1 (List.drop j1 xs))))(o2 o6:List.take (n2*1) (List.drop j2 (own (j4 ys)))=List.map MV.cv (j4 (List.take n2 (List.drop j2 ys))))(o7:List.take (n1*1) (List.drop j1 (own (j4 xs)))=List.map MV.cv (j4 (List.take n1 (List.drop j1 xs))))(o9:BlksCv [some (own (j4 (Z1 16777216 n2 (val 16777216 (List.take n2 (List.drop j2 ys))-val 16777216 (List.take n1 (List.drop j1 xs)))))),some (own (j4 (X8 (Z1 16777216 n2 (val 16777216 (List.take n2 (List.drop j2 ys))-val 16777216 (List.take n1 (List.drop j1 xs)))) (v2 (val 16777216 (List.take n2 (List.drop j2 ys))-val 16777216 (List.take n1 (List.drop j1 xs)))/24) ((dig 16777216 (val 16777216 (List.take n2 (List.drop j2 ys))-val 16777216 (List.take n1 (List.drop j1 xs)))).length-v2 (val 16777216 (List.take n2 (List.drop j2 ys))-val 16777216 (List.take n1 (List.drop j1 xs)))/24) (z3N (val 16777216 (List.take n2 (List.drop j2 ys))-val 16777216 (List.take n1 (List.drop j1 xs)))))))]){R:Goal}(hn:j7 R.n [0,1,4]=true)(hR:Ok P 184 (loopHead P 184 1) ⟨J1 111 [(4,.ptr 0 0),(9,.sl (0+1) j1 n1 1),(10,.sl (0+1+1) (v2 (val 16777216 (List.take n2 (List.drop j2 ys))-val 16777216 (List.take n1 (List.drop j1 xs)))/24) (dig 16777216 (z3N (val 16777216 (List.take n2 (List.drop j2 ys))-val 16777216 (List.take n1 (List.drop j1 xs))))).length 1),(11,.cv (.lit (.int .i64 t))),(12,.cv (.lit (.int .i64 t')))],[some [.cv (.lit (.bool false)),.cv (.lit (.string {data:= #[]}))],some (own (j4 xs)),some (own (j4 (X8 (Z1 16777216 n2 (val 16777216 (List.take n2 (List.drop j2 ys))-val 16777216 (List.take n1 (List.drop j1 xs)))) (v2 (val 16777216 (List.take n2 (List.drop j2 ys))-val 16777216 (List.take n1 (List.drop j1 xs)))/24) ((dig 16777216 (val 16777216 (List.take n2 (List.drop j2 ys))-val 16777216 (List.take n1 (List.drop j1 xs)))).length-v2 (val 16777216 (List.take n2 (List.drop j2 ys))-val 16777216 (List.take n1 (List.drop j1 xs)))/24) (z3N (val 16777216 (List.take n2 (List.drop j2 ys))-val 16777216 (List.take n1 (List.drop j1 xs)))))))]⟩ R):Ok P 184 (loopHead P 184 1) ({tm:=J1 111 [(4,.ptr 0 0),(9,.sl 1 j1 n1 1),(10,.sl 2 j2 n2 1),(11,.cv (j5 t)),(12,.cv (j5 t'))],hp:=[some [.cv (.lit (.bool false)),.cv (X1 {data:= #[]})],some (own (j4 xs)),some (own (j4 ys))]}) R:=
 z07 (keep:=[4,9,10,11,12]) (σ:=[0,1,4]) (.c (z31 n1 n2 (List.take n1 (List.drop j1 xs)) (List.take n2 (List.drop j2 ys)) a d e f i j) (.c o1 (.c o2 (.o 3 (.k (.lit (.int .i64 (z1V (val 16777216 (List.take n1 (List.drop j1 xs))) (val 16777216 (List.take n2 (List.drop j2 ys)))))) [j4 (List.take n1 (List.drop j1 xs)),j4 (List.take n2 (List.drop j2 ys))]) (.b 7 h1 (.b 10 h2 (.c (zb4 n2 n1 (List.take n2 (List.drop j2 ys)) (List.take n1 (List.drop j1 xs)) l p q r s u) (.c o6 (.c o7 (.c (ziy n2 (val 16777216 (List.take n2 (List.drop j2 ys))-val 16777216 (List.take n1 (List.drop j1 xs))) v w x) (.c o9 (.o 13 (.g (.sl 0 0 (dig 16777216 (val 16777216 (List.take n2 (List.drop j2 ys))-val 16777216 (List.take n1 (List.drop j1 xs)))).length 1) (j4 (Z1 B24 n2 (val B24 (List.take n2 (List.drop j2 ys))-val B24 (List.take n1 (List.drop j1 xs))))) [j4 (List.take n2 (List.drop j2 ys)),j4 (List.take n1 (List.drop j1 xs))]) (.o 14 (.m [4] (.tup [.sl 0 (v2 (val 16777216 (List.take n2 (List.drop j2 ys))-val 16777216 (List.take n1 (List.drop j1 xs)))/24) (dig 16777216 (z3N (val 16777216 (List.take n2 (List.drop j2 ys))-val 16777216 (List.take n1 (List.drop j1 xs))))).length 1,.cv (.lit (.int .i64 (↑(v2 (val 16777216 (List.take n2 (List.drop j2 ys))-val 16777216 (List.take n1 (List.drop j1 xs)))):Int)))]) [some (own (j4 (X8 (Z1 B24 n2 (val 16777216 (List.take n2 (List.drop j2 ys))-val 16777216 (List.take n1 (List.drop j1 xs)))) (v2 (val 16777216 (List.take n2 (List.drop j2 ys))-val 16777216 (List.take n1 (List.drop j1 xs)))/24) ((dig B24 (val 16777216 (List.take n2 (List.drop j2 ys))-val 16777216 (List.take n1 (List.drop j1 xs)))).length-v2 (val 16777216 (List.take n2 (List.drop j2 ys))-val 16777216 (List.take n1 (List.drop j1 xs)))/24) (z3N (val 16777216 (List.take n2 (List.drop j2 ys))-val 16777216 (List.take n1 (List.drop j1 xs)))))))]) (.o 19 .stop .nil)))))))))))))) (by kernel_rfl) rfl hn hR (.cons (by simp[CvL]) (.cons (J0 _) (.cons (J0 _) .nil)))
theorem zod(n:Nat)(d:Int)(xs:List Nat)(o0:(0:Int)≤i64.wrap ((n:Int)+1)∧i64.wrap ((n:Int)+1)≤i64.wrap ((n:Int)+1)∧(8:Int)*i64.wrap ((n:Int)+1)≤140737488355328∧i64.wrap ((n:Int)+1)≤4611686018427387904∧1=1)(o1:CvL (List.replicate ((i64.wrap ((n:Int)+1)).toNat*1) (.cv (.lit (.int .i64 0))))){R:CV→Prop}(hR:Ok P 232 (loopHead P 232 0) ⟨J1 40 [(0,.cv (.lst n (j4 xs))),(5,.sl 0 0 (i64.wrap ((n:Int)+1)).toNat 1),(6,.cv (.lit (.int .i64 d))),(7,.cv (.lit (.int .i64 0)))],[some (List.replicate ((i64.wrap ((n:Int)+1)).toNat*1) (.cv (.lit (.int .i64 0))))]⟩ (.of R)):Y3 P 232 [.lst n (j4 xs),.lit (.int .i64 d)] R:=
 Z6 (keep:=[0,5,6,7]) (σ:=[0]) (.c o0 (.o 9 .stop .nil)) (by kernel_rfl) rfl hR (.cons o1 .nil)
theorem zjj(n o c i:Nat)(xs zs:List Nat)(h1:decide ((i:Int)<n)=true)(o1:(0:Int)≤i∧(i:Int)<n)(o2:(j4 xs)[(i:Int).toNat*1]?=some (.lit (.int .i64 ↑(xs.getD ((i:Int).toNat*1) 0))))(o5:(0:Int)≤i∧(i:Int)<o)(o6:0+(i:Int).toNat*1+1≤(own (j4 zs)).length)(o8:CvL (j6 (own (j4 zs)) (0+(i:Int).toNat*1) [.cv (.lit (.int .i64 ((i64.wrap ((c:Int)+i64.wrap ((2:Int)*(↑(xs.getD ((i:Int).toNat*1) 0):Int)))).tmod 16777216)))])){R:Goal}(hn:j7 R.n [0]=true)(hR:Ok P 232 (loopHead P 232 0) ⟨J1 40 [(0,.cv (.lst n (j4 xs))),(5,.sl 0 0 o 1),(6,.cv (.lit (.int .i64 (i64.wrap ((i64.wrap ((c:Int)+i64.wrap ((2:Int)*(↑(xs.getD ((i:Int).toNat*1) 0):Int)))).tdiv 16777216))))),(7,.cv (.lit (.int .i64 (i64.wrap ((i:Int)+1)))))],[some (j6 (own (j4 zs)) (0+(i:Int).toNat*1) [.cv (.lit (.int .i64 ((i64.wrap ((c:Int)+i64.wrap ((2:Int)*(↑(xs.getD ((i:Int).toNat*1) 0):Int)))).tmod 16777216)))])]⟩ R):Ok P 232 (loopHead P 232 0) ⟨J1 40 [(0,.cv (.lst n (j4 xs))),(5,.sl 0 0 o 1),(6,.cv (j5 (c:Int))),(7,.cv (j5 (i:Int)))],[some (own (j4 zs))]⟩ R:=
 z07 (keep:=[0,5,6,7]) (σ:=[0]) (.b 5 h1 (.c o1 (.l 10 o2 (.c (eqn 1) (.c (nz 16777216) (.c o5 (.c o6 (.c (nz 16777216) (.o 26 .stop .nil))))))))) (by kernel_rfl) rfl hn hR (.cons o8 .nil)
theorem zjq(n o c i:Nat)(xs zs:List Nat)(h1:decide ((i:Int)<n)=false)(a:o=(zs.set (0+(n:Int).toNat*1) c).length)(d:Dig 16777216 (zs.set (0+(n:Int).toNat*1) c))(e:(zs.set (0+(n:Int).toNat*1) c).length<2^62)(o1:(0:Int)≤n∧(n:Int)<o)(o2:0+(n:Int).toNat*1+1≤(own (j4 zs)).length)(o4:List.take (o*1) (List.drop 0 (j6 (own (j4 zs)) (0+(n:Int).toNat*1) [.cv (.lit (.int .i64 (c:Int)))]))=List.map MV.cv (j4 (zs.set (0+(n:Int).toNat*1) c))){R:Goal}(hR:R.c (.lst (dig 16777216 (val 16777216 (zs.set (0+(n:Int).toNat*1) c))).length (j4 (dig 16777216 (val 16777216 (zs.set (0+(n:Int).toNat*1) c)))))):Ok P 232 (loopHead P 232 0) ⟨J1 40 [(0,.cv (.lst n (j4 xs))),(5,.sl 0 0 o 1),(6,.cv (j5 (c:Int))),(7,.cv (j5 (i:Int)))],[some (own (j4 zs))]⟩ R:=
 okT (.b 5 h1 (.c o1 (.c o2 (.rs 13 [j4 (zs.set (0+(n:Int).toNat*1) c)] (z0X o (zs.set (0+(n:Int).toNat*1) c) a d e) (.c o4 .nil))))) (by kernel_rfl) hR
theorem zcq {R : Goal} (hn : j7 R.n [0] = true) (b : Nat) (_hb : b ≤ 1) (xs : List Nat) (hlen : xs.length < 2 ^ 40) (hx : Dig B24 xs) (hR : R.c (z0r (2 * val B24 xs + b))) :
    ∀(k i:Nat) (zs:List Nat) (c:Nat),xs.length-i=k→i≤xs.length→zs.length=xs.length+1→Dig B24 zs→c≤1→
     val B24 (zs.take i)+c*B24^i=2*val B24 (xs.take i)+b→
     Ok P 232 (loopHead P 232 0) ⟨J1 40 [(0,.cv (.lst xs.length (j4 xs))),(5,.sl 0 0 (xs.length+1) 1),(6,.cv (j5 (c:Int))),(7,.cv (j5 (i:Int)))],[some (own (j4 zs))]⟩ R:=by
 intro k
 induction k with
 |zero=>
  intro i zs c hk hi hz hd hc hv
  have:i=xs.length:=by omega
  subst this
  have e1:(0:Nat)+(xs.length:Int).toNat*1=xs.length:=by omega
  have hset:j6 (own (j4 zs)) xs.length [MV.cv (CV.lit (.int .i64 (c:Int)))]=own (j4 (zs.set xs.length c)):=Z3 (by omega)
  have hl2:(zs.set xs.length c).length=xs.length+1:=by simp[hz]
  refine zjq _ _ _ _ _ _ (by simp) (by rw[e1,hl2]) (by rw[e1];exact hd.set (by simp only[B24];omega) _) (by rw[e1,hl2];omega) (by omega) (by rw[e1,J4,Q9,hz];omega) ?_ ?_
  · rw[e1,hset];exact z17 (by rw[Q9,hl2])
  · rw[e1]
    have h1:val 16777216 (zs.set xs.length c)=2*val B24 xs+b:=by
     rw[show(16777216:Nat)=B24 from rfl]
     have:=z06 (b:=B24) (xs:=zs) (i:=xs.length) (d:=c) (by omega)
     rw[List.take_of_length_le (by omega),Nat.mul_comm]at this
     rw[this,hv,List.take_length]
    rw[h1];exact hR
 |succ k ih=>
  intro i zs c hk hi hz hd hc hv
  have hlt:i<xs.length:=by omega
  have e1:(i:Int).toNat*1=i:=by omega
  have e2:(0:Nat)+(i:Int).toNat*1=i:=by omega
  have e3:i64.wrap ((i:Int)+1)=((i+1:Nat):Int):=by rw[w64 (by omega)];omega
  have gx:=Y2 (xs:=xs) (i:=(i:Int).toNat*1) (by omega)
  have dx:=hx.get (by decide) i
  have hdg: ∀s:Nat,s%B24<B24:=fun s=>Nat.mod_lt _ (by decide)
  have hsum:i64.wrap ((c:Int)+i64.wrap (2*((xs.getD ((i:Int).toNat*1) 0:Nat):Int)))=((xs.getD i 0+xs.getD i 0+c:Nat):Int):=by
   simp only[B24]at dx;rw[e1,w64 (n:=2*_) (by omega),w64 (by omega)];omega
  obtain⟨s1,s2,s3⟩:=z7M (s:=xs.getD i 0+xs.getD i 0+c) (by simp only[B24]at dx;omega)
  have hset:j6 (own (j4 zs)) (0+(i:Int).toNat*1) [.cv (.lit (.int .i64 ((i64.wrap ((c:Int)+i64.wrap (2*((xs.getD ((i:Int).toNat*1) 0:Nat):Int)))).tmod 16777216)))]=own (j4 (zs.set i ((xs.getD i 0+xs.getD i 0+c)%B24))):=by
   rw[hsum,s2,e2];exact Z3 (by omega)
  refine zjj _ _ _ _ _ _ (by simpa using hlt) (by omega) gx (by omega) (by rw[e2,J4,Q9];omega) (by rw[hset];exact J0 _) hn ?_
  rw[hset,hsum,s3,e3]
  refine ih (i+1) _ _ (by omega) (by omega) (by simpa using hz) (hd.set (hdg _) _) (by simp only[B24]at*;omega) ?_
  rw[z06 (by omega),Y0,Nat.pow_succ]
  have:=z7l (val B24 (zs.take i)) (val B24 (xs.take i)) (val B24 (xs.take i)+b) (B24^i) ((xs.getD i 0+xs.getD i 0+c)%B24) c ((xs.getD i 0+xs.getD i 0+c)/B24) (xs.getD i 0) (xs.getD i 0) B24 (by omega) (Nat.mod_add_div _ _)
  omega
theorem z8a(n:Nat)(d:Int)(us:List Nat)(hn:n=us.length)(hu:Dig B24 us)(hl:us.length<2^40)(hd:0≤d∧d≤1):PCall P 232 [.lst n (j4 us),.lit (.int .i64 d)] (z0r (2*val B24 us+d.toNat)):=by
 subst hn
 have e:i64.wrap ((us.length:Int)+1)=((us.length+1:Nat):Int):=by rw[w64 (by omega)];omega
 refine Y6 (zod _ _ _ (by rw[e];omega) (by rw[U0];exact J0 _) ?_)
 rw[U0,e,show(((us.length+1:Nat):Int)).toNat=us.length+1 by omega,Nat.mul_one]
 have:=zcq (R:= .of (fun x=>x=z0r (2*val B24 us+d.toNat))) rfl d.toNat (by omega) us hl hu rfl us.length 0 (List.replicate (us.length+1) 0) d.toNat (by omega) (by omega) (by simp) (Dig.replicate (by decide) _) (by omega) (by simp[val])
 rw[show((d.toNat:Nat):Int)=d by omega]at this
 exact this
theorem zqd(j1 n1:Nat)(t t':Int)(i:Nat)(xs:List Nat)(h1:decide ((i:Int)<if t'<t then t' else t)=true)(a:n1=(List.take n1 (List.drop j1 xs)).length)(d:Dig 16777216 (List.take n1 (List.drop j1 xs)))(e:(List.take n1 (List.drop j1 xs)).length<2^40)(f:(0:Int)≤0∧(0:Int)≤1)(o2:List.take (n1*1) (List.drop j1 (own (j4 xs)))=List.map MV.cv (j4 (List.take n1 (List.drop j1 xs)))){R:Goal}(hn:j7 R.n [0]=true)(hR:Ok P 184 (loopHead P 184 2) ⟨J1 111 [(4,.ptr 0 0),(9,.cv (.lst (dig 16777216 (2*val 16777216 (List.take n1 (List.drop j1 xs))+0)).length (j4 (dig 16777216 (2*val 16777216 (List.take n1 (List.drop j1 xs))+0))))),(11,.cv (.lit (.int .i64 t))),(12,.cv (.lit (.int .i64 t'))),(14,.cv (.lit (.int .i64 (i64.wrap ((i:Int)+1)))))],[some [.cv (.lit (.bool false)),.cv (.lit (.string {data:= #[]}))]]⟩ R):Ok P 184 (loopHead P 184 2) ({tm:=J1 111 [(4,.ptr 0 0),(9,.sl 1 j1 n1 1),(11,.cv (j5 t)),(12,.cv (j5 t')),(14,.cv (j5 (i:Int)))],hp:=[some [.cv (.lit (.bool false)),.cv (X1 {data:= #[]})],some (own (j4 xs))]}) R:=
 z07 (keep:=[4,9,11,12,14]) (σ:=[0]) (.b 6 h1 (.rs 8 [j4 (List.take n1 (List.drop j1 xs))] (z8a n1 (0:Int) (List.take n1 (List.drop j1 xs)) a d e f) (.c o2 (.o 13 .stop .nil)))) (by kernel_rfl) rfl hn hR (.cons (by simp[CvL]) .nil)
theorem zol(j1 n1:Nat)(t t':Int)(i:Nat)(xs:List Nat)(h1:decide ((i:Int)<if t'<t then t' else t)=false)(a:n1=(List.take n1 (List.drop j1 xs)).length)(d:Dig 16777216 (List.take n1 (List.drop j1 xs)))(e:(List.take n1 (List.drop j1 xs)).length<2^40)(o2:List.take (n1*1) (List.drop j1 (own (j4 xs)))=List.map MV.cv (j4 (List.take n1 (List.drop j1 xs)))){R:Goal}(hR:R.c (.agg [.lit (.bool (decide ((if false=true then-(↑(val B24 (List.take n1 (List.drop j1 xs))):Int)else(↑(val B24 (List.take n1 (List.drop j1 xs))):Int))<0))),.lit (.string (bytesOf (if false=true then-(↑(val 16777216 (List.take n1 (List.drop j1 xs))):Int)else(↑(val 16777216 (List.take n1 (List.drop j1 xs))):Int)).natAbs))])):Ok P 184 (loopHead P 184 2) ({tm:=J1 111 [(4,.ptr 0 0),(9,.sl 1 j1 n1 1),(11,.cv (j5 t)),(12,.cv (j5 t')),(14,.cv (j5 (i:Int)))],hp:=[some [.cv (.lit (.bool false)),.cv (X1 {data:= #[]})],some (own (j4 xs))]}) R:=
 okT (.b 6 h1 (.c (z3h false n1 (List.take n1 (List.drop j1 xs)) a d e) (.c o2 (.c (show 2≤2 from by decide) (.o 8 (.k (.agg [.lit (.bool (decide ((if false=true then-(↑(val B24 (List.take n1 (List.drop j1 xs))):Int)else(↑(val B24 (List.take n1 (List.drop j1 xs))):Int))<0))),.lit (.string (bytesOf (if false=true then-(↑(val 16777216 (List.take n1 (List.drop j1 xs))):Int)else(↑(val 16777216 (List.take n1 (List.drop j1 xs))):Int)).natAbs))]) [j4 (List.take n1 (List.drop j1 xs))]) .nil))))) (by kernel_rfl) hR
theorem zrr(n1:Nat)(t t':Int)(i:Nat)(xs:List Nat)(h1:decide ((i:Int)<if t'<t then t' else t)=true)(a:n1=xs.length)(c:Dig 16777216 xs)(d:xs.length<2^40)(e:(0:Int)≤0∧(0:Int)≤1){R:Goal}(hn:j7 R.n [0]=true)(hR:Ok P 184 (loopHead P 184 2) ⟨J1 111 [(4,.ptr 0 0),(9,.cv (.lst (dig 16777216 (2*val 16777216 xs+0)).length (j4 (dig 16777216 (2*val 16777216 xs+0))))),(11,.cv (.lit (.int .i64 t))),(12,.cv (.lit (.int .i64 t'))),(14,.cv (.lit (.int .i64 (i64.wrap ((i:Int)+1)))))],[some [.cv (.lit (.bool false)),.cv (.lit (.string {data:= #[]}))]]⟩ R):Ok P 184 (loopHead P 184 2) ({tm:=J1 111 [(4,.ptr 0 0),(9,.cv (.lst n1 (j4 xs))),(11,.cv (j5 t)),(12,.cv (j5 t')),(14,.cv (j5 (i:Int)))],hp:=[some [.cv (.lit (.bool false)),.cv (X1 {data:= #[]})]]}) R:=
 z07 (keep:=[4,9,11,12,14]) (σ:=[0]) (.b 6 h1 (.r 8 (z8a n1 (0:Int) xs a c d e) (.o 13 .stop .nil))) (by kernel_rfl) rfl hn hR (.cons (by simp[CvL]) .nil)
theorem zpR(n1:Nat)(t t':Int)(i:Nat)(xs:List Nat)(h1:decide ((i:Int)<if t'<t then t' else t)=false)(a:n1=xs.length)(d:Dig 16777216 xs)(e:xs.length<2^40){R:Goal}(hR:R.c (.agg [.lit (.bool (decide ((if false=true then-(↑(val B24 xs):Int)else(↑(val B24 xs):Int))<0))),.lit (.string (bytesOf (if false=true then-(↑(val 16777216 xs):Int)else(↑(val 16777216 xs):Int)).natAbs))])):Ok P 184 (loopHead P 184 2) ({tm:=J1 111 [(4,.ptr 0 0),(9,.cv (.lst n1 (j4 xs))),(11,.cv (j5 t)),(12,.cv (j5 t')),(14,.cv (j5 (i:Int)))],hp:=[some [.cv (.lit (.bool false)),.cv (X1 {data:= #[]})]]}) R:=
 okT (.b 6 h1 (.r 8 (z3h false n1 xs a d e) (.c (show 2≤2 from by decide) .nil))) (by kernel_rfl) hR
theorem znh(a b:Bool)(t w t' w':Nat)(hv:J5 a (bytesOf (2^t*w))=true)(hv':J5 b (bytesOf (2^t'*w'))=true)(hw:w%2=1)(hw':w'%2=1)(g1:decide ((↑(bytesOf (2^t*w)).size:Int)≤7)=true)(g2:decide ((↑(bytesOf (2^t'*w')).size:Int)≤7)=false)(h1:((↑(dig 16777216 (2^t*w)).length:Int)==0)=false)(h2:((↑(dig 16777216 (2^t'*w')).length:Int)==0)=false)(d:Sml (2^t*w))(e:Sml (2^t'*w'))(g:(dig 16777216 (2^t*w)).length<2^40)(i:(dig 16777216 (2^t'*w')).length<2^40)(o9:BlksCv [some (own (j4 (dig 16777216 (2^t*w)))),some (own (j4 (X8 (dig 16777216 (2^t*w)) (t/24) ((dig 16777216 (2^t*w)).length-t/24) w)))])(o11:BlksCv [some (own (j4 (dig 16777216 (2^t'*w')))),some (own (j4 (X8 (dig 16777216 (2^t'*w')) (t'/24) ((dig 16777216 (2^t'*w')).length-t'/24) w')))]){R:CV→Prop}(hR:Ok P 184 (loopHead P 184 1) ⟨J1 111 [(4,.ptr 0 0),(9,.sl (0+1) (t/24) (dig 16777216 w).length 1),(10,.sl (0+1+1) (t'/24) (dig 16777216 w').length 1),(11,.cv (.lit (.int .i64 (t:Int)))),(12,.cv (.lit (.int .i64 (t':Int))))],[some [.cv (.lit (.bool false)),.cv (.lit (.string {data:= #[]}))],some (own (j4 (X8 (dig 16777216 (2^t*w)) (t/24) ((dig 16777216 (2^t*w)).length-t/24) w))),some (own (j4 (X8 (dig 16777216 (2^t'*w')) (t'/24) ((dig 16777216 (2^t'*w')).length-t'/24) w')))]⟩ (.of R)):Y3 P 184 [.agg [.lit (.bool a),X1 (bytesOf (2^t*w))],.agg [.lit (.bool b),X1 (bytesOf (2^t'*w'))]] R:=
 Z6 (keep:=[4,9,10,11,12]) (σ:=[2,5,6]) (.c ((J6 a (bytesOf (2^t*w))).eqB hv) (.c ((J6 b (bytesOf (2^t'*w'))).eqB hv') (.o 4 (.r (.lit (.bool true))) (.o 8 (.r (.lit (.bool true))) (.b 16 g1 (.b 22 g2 (.c (Q2 (2^t*w) d) (.c (Q2 (2^t'*w') e) (.o 25 (.f (.sl 0 0 (dig 16777216 (2^t*w)).length 1) (j4 (dig B24 (2^t*w)))) (.o 28 (.f (.sl 0 0 (dig 16777216 (2^t'*w')).length 1) (j4 (dig B24 (2^t'*w')))) (.b 34 h1 (.b 39 h2 (.c (z5z t w hw g) (.c o9 (.c (z5z t' w' hw' i) (.c o11 (.o 41 (.m [5] (.tup [.sl 0 (t/24) (dig 16777216 w).length 1,.cv (.lit (.int .i64 (t:Int)))]) [some (own (j4 (X8 (dig B24 (2^t*w)) (t/24) ((dig B24 (2^t*w)).length-t/24) w)))]) (.o 48 (.m [6] (.tup [.sl 0 (t'/24) (dig 16777216 w').length 1,.cv (.lit (.int .i64 (t':Int)))]) [some (own (j4 (X8 (dig B24 (2^t'*w')) (t'/24) ((dig B24 (2^t'*w')).length-t'/24) w')))]) (.o 54 .stop .nil))))))))))))))))))) (by kernel_rfl) rfl hR (.cons (by simp[CvL]) (.cons (J0 _) (.cons (J0 _) .nil)))
end Go.Fw
set_option maxRecDepth 10000
namespace Go.Fw
theorem zud{a:Nat}(h:a%2=1)(k:Nat):Nat.Coprime (2^k) a:=by
 apply Nat.Coprime.pow_left
 show Nat.gcd 2 a=1
 rw[Nat.gcd_rec,h];rfl
theorem z2q{x y:Nat}(h:x%2=1)(k:Nat):Nat.gcd x (2^k*y)=Nat.gcd x y:=Nat.Coprime.gcd_mul_left_cancel_right _ (zud h k)
theorem z8E{x y:Nat}(h:y%2=1)(k:Nat):Nat.gcd (2^k*x) y=Nat.gcd x y:=by rw[Nat.gcd_comm,z2q h,Nat.gcd_comm]
theorem zlL{a b:Nat}(ha:a%2=1)(hb:b%2=1)(n m:Nat):Nat.gcd (2^n*a) (2^m*b)=2^(min n m)*Nat.gcd a b:=by
 rcases Nat.le_total n m with h|h
 · rw[Nat.min_eq_left h]
   obtain⟨k,rfl⟩:=Nat.exists_eq_add_of_le h
   rw[Nat.pow_add,Nat.mul_assoc,Nat.gcd_mul_left,z2q ha]
 · rw[Nat.min_eq_right h]
   obtain⟨k,rfl⟩:=Nat.exists_eq_add_of_le h
   rw[Nat.pow_add,Nat.mul_assoc,Nat.gcd_mul_left,z8E hb]
theorem zbl{x y d k:Nat}(hx:x%2=1)(hlt:x≤y)(hd:y-x=2^k*d):Nat.gcd x d=Nat.gcd x y:=by
 rw[←z2q hx k,←hd,Nat.gcd_sub_self_right hlt]
set_option maxRecDepth 100000
def Pt(xs:List Nat)(j X:Nat):Prop:=(xs.drop j).take (dig B24 X).length=dig B24 X
theorem z0s(n j:Nat)(xs:List Nat):List.take (n*1) (List.drop j (own (j4 xs)))=List.map MV.cv (j4 (List.take n (List.drop j xs))):=by
 simp[own,j4,List.map_take,List.map_drop]
theorem z65(n:Nat):z3N n≤n:=Nat.div_le_self ..
theorem z22(b:Nat): ∀(m k n:Nat),m≤k→(Z1 b k n).take m=Z1 b m n
 |0,_,_,_=>by simp[Z1]
 |m+1,0,_,h=>by omega
 |m+1,k+1,n,h=>by simp only[Z1,List.take_succ_cons];rw[z22 b m k _ (by omega)]
theorem z41{xs:List Nat}{t w D:Nat}(hD:D=2^t*w)(h:(dig B24 D).length≤xs.length)(hw:0<w):Pt (X8 xs (t/24) ((dig B24 D).length-t/24) w) (t/24) w:=by
 have hlt:=J8 (b:=B24) (by decide) D
 have e:2^t=B24^(t/24)*2^(t%24):=by
  rw[show B24=2^24 from rfl,←Nat.pow_mul,←Nat.pow_add];congr 1;omega
 have h1:B24^(t/24)*w≤D:=by
  rw[hD,e,Nat.mul_assoc]
  exact Nat.mul_le_mul_left _ (Nat.le_mul_of_pos_left _ (Nat.two_pow_pos _))
 have h2:t/24<(dig B24 D).length:=by
  refine(Nat.pow_lt_pow_iff_right (a:=B24) (by decide)).1 (Nat.lt_of_le_of_lt ?_ hlt)
  exact Nat.le_trans (Nat.le_mul_of_pos_right _ hw) h1
 have h3:(dig B24 w).length≤(dig B24 D).length-t/24:=by
  refine Q1 (by decide) ?_
  have h4:B24^(t/24)*w<B24^(t/24)*B24^((dig B24 D).length-t/24):=by
   rw[←Nat.pow_add,show t/24+((dig B24 D).length-t/24)=(dig B24 D).length by omega]
   exact Nat.lt_of_le_of_lt h1 hlt
  exact Nat.lt_of_mul_lt_mul_left h4
 have h5:=z5Y (xs:=xs) (j:=t/24) (n:=(dig B24 D).length-t/24) (w:=w) (by omega)
 unfold Pt
 have h6:=z22 B24 _ _ w h3
 rw[←h5,List.take_take,Nat.min_eq_left h3,z09 (by decide)]at h6
 exact h6
theorem z6u {Q : CV → Prop} (t t' : Int) (G : Nat)
    (hk: ∀(j:Nat) (xs:List Nat),Pt xs j G→Ok P 184 (loopHead P 184 2) ⟨J1 111 [(4,.ptr 0 0),(9,.sl 1 j (dig B24 G).length 1),(11,.cv (j5 t)),(12,.cv (j5 t')),(14,.cv (j5 0))],[some [.cv (.lit (.bool false)),.cv (X1 ⟨#[]⟩)],some (own (j4 xs))]⟩ (.of Q)):
    ∀(N X Y:Nat),X+Y≤N→X%2=1→Y%2=1→(dig B24 X).length<2^40→(dig B24 Y).length<2^40→Nat.gcd X Y=G→ ∀(j1 j2:Nat) (xs ys:List Nat),Pt xs j1 X→Pt ys j2 Y→
     Ok P 184 (loopHead P 184 1) ⟨J1 111 [(4,.ptr 0 0),(9,.sl 1 j1 (dig B24 X).length 1),(10,.sl 2 j2 (dig B24 Y).length 1),(11,.cv (j5 t)),(12,.cv (j5 t'))],[some [.cv (.lit (.bool false)),.cv (X1 ⟨#[]⟩)],some (own (j4 xs)),some (own (j4 ys))]⟩ (.of Q)
 |0,X,Y,hN,hX,_,_,_,_,_,_,_,_,_,_=>by omega
 |N+1,X,Y,hN,hX,hY,lX,lY,hG,j1,j2,xs,ys,p1,p2=>by
  have v1:val B24 (List.take (dig B24 X).length (List.drop j1 xs))=X:=by rw[p1,Q8 (by decide)]
  have v2:val B24 (List.take (dig B24 Y).length (List.drop j2 ys))=Y:=by rw[p2,Q8 (by decide)]
  have a1:(dig B24 X).length=(List.take (dig B24 X).length (List.drop j1 xs)).length:=by rw[p1]
  have a2:(dig B24 Y).length=(List.take (dig B24 Y).length (List.drop j2 ys)).length:=by rw[p2]
  have b1:List.take (dig B24 X).length (List.drop j1 xs)=dig B24 (val B24 (List.take (dig B24 X).length (List.drop j1 xs))):=by rw[v1,p1]
  have b2:List.take (dig B24 Y).length (List.drop j2 ys)=dig B24 (val B24 (List.take (dig B24 Y).length (List.drop j2 ys))):=by rw[v2,p2]
  have c1:(List.take (dig B24 X).length (List.drop j1 xs)).length<2^40:=by rw[←a1];exact lX
  have c2:(List.take (dig B24 Y).length (List.drop j2 ys)).length<2^40:=by rw[←a2];exact lY
  rcases Nat.lt_trichotomy X Y with h|h|h
  · -- y's turn
    have hne:Y-X≠0:=by omega
    have hm:=Z7 (b:=B24) (by decide) (show Y-X≤Y by omega)
    obtain⟨s1,s2⟩:=z2W hne
    refine zoO j1 _ j2 _ t t' xs ys ?_ ?_ a1 a2 b1 b2 c1 c2 a2 a1 b2 b1 c2 ?_ ?_ ?_ lY (z0s ..) (z0s ..) (z0s ..) (z0s ..) ?_ rfl ?_
    · rw[v1,v2,z1V,if_pos h];rfl
    · rw[v1,v2,z1V,if_pos h];rfl
    · rw[v1,v2];omega
    · rw[v1,v2];exact hne
    · rw[v1,v2];exact hm
    · intro b hb
      simp only[List.mem_cons,List.not_mem_nil,or_false]at hb
      rcases hb with rfl|rfl<;>exact fun cells hc=>by cases hc;exact J0 _
    · rw[v1,v2]
      refine z6u t t' G hk N X (z3N (Y-X)) (by have:=z65 (Y-X);omega) hX s2 lX ?_ ?_ j1 _ xs _ p1 ?_
      · exact Nat.lt_of_le_of_lt (Nat.le_trans (Z7 (by decide) (z65 _)) hm) lY
      · rw[←hG];exact zbl hX (by omega) s1
      · exact z41 s1 (by rw[j9];exact hm) (by omega)
  · subst h
    have hG':X=G:=by rw[←hG,Nat.gcd_self]
    subst hG'
    refine zoW j1 _ j2 _ t t' xs ys ?_ a1 a2 b1 b2 c1 c2 (z0s ..) (z0s ..) rfl (hk j1 xs p1)
    rw[v1,v2,z1V,if_neg (by omega),if_pos rfl];rfl
  · -- x's turn
    have hne:X-Y≠0:=by omega
    have hm:=Z7 (b:=B24) (by decide) (show X-Y≤X by omega)
    obtain⟨s1,s2⟩:=z2W hne
    refine zpr j1 _ j2 _ t t' xs ys ?_ ?_ a1 a2 b1 b2 c1 c2 a1 a2 b1 b2 c1 ?_ ?_ ?_ lX (z0s ..) (z0s ..) (z0s ..) (z0s ..) ?_ rfl ?_
    · rw[v1,v2,z1V,if_neg (by omega),if_neg (by omega)];rfl
    · rw[v1,v2,z1V,if_neg (by omega),if_neg (by omega)];rfl
    · rw[v1,v2];omega
    · rw[v1,v2];exact hne
    · rw[v1,v2];exact hm
    · intro b hb
      simp only[List.mem_cons,List.not_mem_nil,or_false]at hb
      rcases hb with rfl|rfl<;>exact fun cells hc=>by cases hc;exact J0 _
    · rw[v1,v2]
      refine z6u t t' G hk N Y (z3N (X-Y)) (by have:=z65 (X-Y);omega) hY s2 lY ?_ ?_ j2 _ ys _ p2 ?_
      · exact Nat.lt_of_le_of_lt (Nat.le_trans (Z7 (by decide) (z65 _)) hm) lX
      · rw[←hG,Nat.gcd_comm X Y];exact zbl hY (by omega) s1
      · exact z41 s1 (by rw[j9];exact hm) (by omega)
theorem z1d{α:Type}(x y:α):(if false=true then x else y)=y:=if_neg (by decide)
theorem zsz(t t':Nat):(if(t':Int)<(t:Int)then(t':Int)else(t:Int))=((min t t':Nat):Int):=by
 split<;>omega
theorem zbo {Q : CV → Prop} (t t' : Nat) (ht : t < 2 ^ 60) (W : Nat) (hl : (dig B24 W).length < 2 ^ 40) (hQ : Q (J2 (W : Int))) : ∀ (k i V : Nat), i + k = min t t' → 2 ^ k * V = W →
    Ok P 184 (loopHead P 184 2) ⟨J1 111 [(4,.ptr 0 0),(9,.cv (.lst (dig B24 V).length (j4 (dig B24 V)))),(11,.cv (j5 (t:Int))),(12,.cv (j5 (t':Int))),(14,.cv (j5 (i:Int)))],[some [.cv (.lit (.bool false)),.cv (X1 ⟨#[]⟩)]]⟩ (.of Q)
 |0,i,V,hi,hV=>by
  have hVW:V=W:=by simpa using hV
  subst hVW
  refine zpR _ _ _ _ _ ?_ rfl (Y8 (by decide) _) hl ?_
  · rw[zsz];exact decide_eq_false (by omega)
  · rw[z1d,Q8 (by decide)];exact hQ
 |k+1,i,V,hi,hV=>by
  have hle:V≤W:=by rw[←hV];exact Nat.le_mul_of_pos_left _ (Nat.two_pow_pos _)
  refine zrr _ _ _ _ _ ?_ rfl (Y8 (by decide) _) (Nat.lt_of_le_of_lt (Z7 (by decide) hle) hl) ⟨Int.le_refl _,by decide⟩ rfl ?_
  · rw[zsz];exact decide_eq_true (by omega)
  · rw[Q8 (by decide),w64 (by omega),Nat.add_zero]
    have:=zbo t t' ht W hl hQ k (i+1) (2*V) (by omega) (by rw[←hV,Nat.pow_succ,Nat.mul_assoc])
    rw[show((i+1:Nat):Int)=(i:Int)+1 from rfl]at this
    exact this
theorem zgc {Q : CV → Prop} (t t' : Nat) (ht : t < 2 ^ 60) (W G : Nat) (_hG : G ≠ 0) (hl : (dig B24 W).length < 2 ^ 40) (hQ : Q (J2 (W : Int))) (hW : 2 ^ (min t t') * G = W) (j : Nat) (xs : List Nat) (p : Pt xs j G) :
    Ok P 184 (loopHead P 184 2) ⟨J1 111 [(4,.ptr 0 0),(9,.sl 1 j (dig B24 G).length 1),(11,.cv (j5 (t:Int))),(12,.cv (j5 (t':Int))),(14,.cv (j5 0))],[some [.cv (.lit (.bool false)),.cv (X1 ⟨#[]⟩)],some (own (j4 xs))]⟩ (.of Q):=by
 have v1:val B24 (List.take (dig B24 G).length (List.drop j xs))=G:=by rw[p,Q8 (by decide)]
 have a1:(dig B24 G).length=(List.take (dig B24 G).length (List.drop j xs)).length:=by rw[p]
 have hle:G≤W:=by rw[←hW];exact Nat.le_mul_of_pos_left _ (Nat.two_pow_pos _)
 have lG:=Nat.lt_of_le_of_lt (Z7 (b:=B24) (by decide) hle) hl
 have hd:Dig B24 (List.take (dig B24 G).length (List.drop j xs)):=by rw[p];exact Y8 (by decide) _
 rcases Nat.eq_zero_or_pos (min t t')with h0|h0
 · rw[h0,Nat.pow_zero,Nat.one_mul]at hW
   subst hW
   refine zol j _ t t' 0 xs ?_ a1 hd (by rw[←a1];exact lG) (z0s ..) ?_
   · rw[zsz,h0];rfl
   · rw[z1d,v1];exact hQ
 · refine zqd j _ t t' 0 xs ?_ a1 hd (by rw[←a1];exact lG) ⟨Int.le_refl _,by decide⟩ (z0s ..) rfl ?_
   · rw[zsz];exact decide_eq_true (by omega)
   · rw[v1,Nat.add_zero]
     obtain⟨k,hk⟩: ∃k,min t t'=k+1:=⟨min t t'-1,by omega⟩
     exact zbo t t' ht W hl hQ k 1 (2*G) (by omega) (by rw[←hW,hk,Nat.pow_succ,Nat.mul_assoc])
end Go.Fw
